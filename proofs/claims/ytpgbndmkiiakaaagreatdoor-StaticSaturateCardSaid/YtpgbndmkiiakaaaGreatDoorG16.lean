/-
  Rc5, Rc6, Rc7, Rc8, Rc9, Rc10, Rc11.
-/
import Derived.Test.YtpgbndmkiiakaaaGreatDoorG15
set_option linter.unusedVariables false
set_option linter.unusedSimpArgs false
namespace Go.Am
set_option maxRecDepth 8000
def Wst (B0:List (List AV)) (k:Int) (acc:List Tm) (bs:List (List AV)):Prop:=
 B0.length+2≤bs.length∧bs.take B0.length=B0∧bs[B0.length]? =some [.int .i64 k]∧
  ((acc=[]∧bs[B0.length+1]? =some [.gs 0 0 0 0])∨(acc≠[]∧∃g,B0.length+1 < g∧bs[B0.length+1]? =some [.gs g 0 4 acc.length]∧bs[g]? =some (Qw acc)))
theorem NG {α:Type} {bs c:List α} {n i:Nat} {y:α} (h:n≤bs.length) (hi:n≤i): ((bs ++ c).set i y).take n=bs.take n:=by
 apply List.ext_getElem?
 intro j
 rw[List.getElem?_take,List.getElem?_take]
 split
 ·rw[List.getElem?_set_ne (by omega),List.getElem?_append_left (by omega)]
 ·rfl
def U7:List AV:=[.int .i64 0,.str [],.int .i64 0,.sl false 4 []]
theorem CK (B0:List (List AV)) (k:Int) (acc:List Tm) (bs:List (List AV)) (x:Tm) (hw:Wst B0 k acc bs) (ha:acc.length < 100000000):
  ∃bs',call F.tb 167 [.agg (Qa x),.gp B0.length 0,.gp (B0.length+1) 0] bs=some (.tup [],bs')∧Wst B0 k (acc ++ if x.kind=k then [x]else []) bs':=by
 obtain⟨h1,h2,h3,h4⟩:=hw
 have hgx:=QE x
 by_cases hk:x.kind=k
 ·rcases h4 with⟨rfl,h4⟩ | ⟨hne,g,hg,h4,h5⟩
  ·have hl1: ¬bs.length=B0.length+1:=by omega
   refine⟨((bs ++ [Qa x]).set (B0.length+1) [.gs bs.length 0 4 1]),?_,?_⟩
   ·rw[Qb F.tb_167 _ _ rfl]
    have e1: (bs ++ [U7])[bs.length]? =some U7:=List.getElem?_concat_length
    have e2: (bs ++ [U7]).set bs.length (Qa x)=bs ++ [Qa x]:=by rw[List.set_append];simp
    have e3: (bs ++ [Qa x])[B0.length+1]? =some [.gs 0 0 0 0]:=by rw[List.getElem?_append_left (by omega)];exact h4
    simp only[U7]at e1 e2
    simp[F.f167,F.f167C,hk,h3,h4,appM,Wh,hl1,e1,e2,e3,Yw]
   ·refine⟨by simp;omega,?_,?_,.inr ⟨by simp[hk],bs.length,by omega,?_,?_⟩⟩
    ·rw[NG (by omega) (by omega)];exact h2
    ·rw[List.getElem?_set_ne (by omega),List.getElem?_append_left (by omega)];exact h3
    ·rw[List.getElem?_set_self (by simp;omega)];simp[hk]
    ·rw[List.getElem?_set_ne (by omega),List.getElem?_concat_length];simp[hk,ZL]
  ·have hl1: ¬bs.length=B0.length+1:=by omega
   have hgl:=Ug h5
   have hlen: (Qw acc).length=acc.length*4:=Z2 QO acc
   have hst: (Qw acc).map AV.strip=Qw acc:=Z5 Zs acc
   have htk: (Qw acc).take (acc.length*4)=Qw acc:=List.take_of_length_le (by omega)
   have hb: (acc.length+1)*56≤140737488355328:=by omega
   have hn1: ¬(acc.length+1)*4≤acc.length*4:=by omega
   have hput: (Qw acc ++ U7).take (acc.length*4)++ (Qa x ++ (Qw acc ++ U7).drop (acc.length*4+4))=Qw (acc ++ [x]):=by
    rw[← hlen,List.take_left,List.drop_eq_nil_of_le (by simp[U7])];simp[Qw,XZ,Sa]
   have hzl: (Qw acc ++ U7).length=acc.length*4+4:=by rw[List.length_append,hlen];rfl
   have hne0:Qw acc≠[]:=fun e=>by rw[e]at hlen;cases acc with
    | nil=>exact hne rfl
    | cons y ys=>simp at hlen
   have hlt: (acc.length:Int) < (acc.length:Int)+1:=by omega
   refine⟨((bs.set g []++ [Qw (acc ++ [x])]).set (B0.length+1) [.gs bs.length 0 4 (acc.length+1)]),?_,?_⟩
   ·rw[Qb F.tb_167 _ _ rfl]
    have e1: (bs.set g []++ [Qw acc ++ U7])[bs.length]? =some (Qw acc ++ U7):=by
     have:bs.length=(bs.set g []).length:=by simp
     rw[this];exact List.getElem?_concat_length
    have e2: (bs.set g []++ [Qw acc ++ U7]).set bs.length (Qw (acc ++ [x]))=bs.set g []++ [Qw (acc ++ [x])]:=by rw[List.set_append];simp
    have e3: (bs.set g []++ [Qw (acc ++ [x])])[B0.length+1]? =some [.gs g 0 4 acc.length]:=by
     rw[List.getElem?_append_left (by simp;omega),List.getElem?_set_ne (by omega)];exact h4
    have hz:U7=[.int .i64 0,.str [],.int .i64 0,.sl false 4 []]:=rfl
    rw[hz]at e1 e2 hput hzl
    generalize Qw (acc ++ [x])=r2 at *
    generalize Qw acc=r1 at *
    simp[F.f167,F.f167C,hk,h3,h4,h5,appM,Wh,hl1,hb,hne0,hlen,hn1,htk,hst,Yw]
    generalize r1 ++ [AV.int IntKind.i64 0,AV.str [],AV.int IntKind.i64 0,AV.sl false 4 []]=r3 at *
    simp[hlt,e1,e2,e3,hput,hzl,hl1,Yw,h3]
   ·refine⟨by simp;omega,?_,?_,.inr ⟨by simp[hk],bs.length,by omega,?_,?_⟩⟩
    ·rw[NG (by simp;omega) (by omega),List.take_set_of_le (by omega)];exact h2
    ·rw[List.getElem?_set_ne (by omega),List.getElem?_append_left (by simp;omega),List.getElem?_set_ne (by omega)];exact h3
    ·rw[List.getElem?_set_self (by simp;omega)];simp[hk]
    ·rw[List.getElem?_set_ne (by omega)]
     have:bs.length=(bs.set g []).length:=by simp
     rw[this,List.getElem?_concat_length];simp[hk]
 ·refine⟨bs,?_,by simpa[hk]using⟨h1,h2,h3,h4⟩⟩
  rw[Qb F.tb_167 _ _ rfl]
  simp[F.f167,F.f167C,hk,h3]
end Go.Am
namespace Go.Am
set_option maxRecDepth 8000
mutual
def QY:Tm→List Tm
 | .mk k n s ks=> .mk k n s ks:: allL ks
def allL:List Tm→List Tm
 | []=>[]
 | t:: ts=>QY t ++ allL ts
end
theorem Qfw (t:Tm):QY t=t:: allL t.kids:=by cases t;simp[QY]
theorem HX (a b:List Tm):allL (a ++ b)=allL a ++ allL b:=by
 induction a with
 | nil=>simp[allL]
 | cons t ts ih=>simp[allL,ih]
mutual
theorem XG: ∀t:Tm,(QY t).length=t.nodes
 | .mk k n s ks=>by simp only[QY,List.length_cons,Tm.nodes,allL_len ks];omega
theorem allL_len: ∀ts:List Tm,(allL ts).length=nodesL ts
 | []=>by simp[allL,nodesL]
 | t:: ts=>by simp only[allL,List.length_append,nodesL,XG t,allL_len ts]
end
mutual
theorem XA: ∀(t x:Tm),x∈QY t→x.mass≤t.mass
 | .mk k n s ks,x,h=>by
  simp only[QY,List.mem_cons]at h
  rcases h with rfl | h
  ·exact Nat.le_refl _
  ·have:=allL_mass ks x h
   simp only[Tm.mass];omega
theorem allL_mass: ∀(ts:List Tm) (x:Tm),x∈allL ts→x.mass≤massL ts
 | [],x,h=>by simp[allL]at h
 | t:: ts,x,h=>by
  simp only[allL,List.mem_append]at h
  simp only[massL]
  rcases h with h | h
  ·have:=XA t x h;omega
  ·have:=allL_mass ts x h;omega
end
def ZZ (k:Int) (x:Tm):Bool:=decide (x.kind=k)
def WOk (B0:List (List AV)) (k:Int) (acc:List Tm) (r:Option (AV×List (List AV))):Prop:=∃bs',r=some (.tup [],bs')∧Wst B0 k acc bs'
theorem Qcs (B0:List (List AV)) (k:Int) (t:Tm) (B:List (List AV)) (hm:t.mass < 100000000)
  (ih: ∀x∈t.kids,∀acc bs,Wst B0 k acc bs→acc.length+x.nodes < 100000000→WOk B0 k (acc ++ (QY x).filter (ZZ k)) (call F.tb 168 [.agg (Qa x),.fn 167 [.gp B0.length 0,.gp (B0.length+1) 0]] bs)):
  ∀(post pre acc:List Tm) (bs:List (List AV)) (ρ:Nat→AV),t.kids=pre ++ post→Wst B0 k acc bs→acc.length+nodesL post < 100000000→ρ 1= .fn 167 [.gp B0.length 0,.gp (B0.length+1) 0]→ρ 10= .sl false 4 (encTs t.kids)→ρ 11= .int .i64 t.kids.length→ρ 12= .int .i64 pre.length→
  WOk B0 k (acc ++ (allL post).filter (ZZ k)) (R F.tb (.loop F.f168l0) ρ bs (Qk 0 (Qx F.f168 B))):=by
 have hmk:=Qo t
 intro post
 induction post with
 | nil=>
  intro pre acc bs ρ hk hw ha h1 h10 h11 h12
  simp only[List.append_nil]at hk
  rw[← hk]at h12
  rw[Qc F.f168l0.eq_1]
  refine⟨bs,?_,by simpa[allL]using hw⟩
  simp[h1,h10,h11,h12,F.f168R,F.f168K]
 | cons x post IH=>
  intro pre acc bs ρ hk hw ha h1 h10 h11 h12
  have hg:=Qp hk
  have hl:t.kids.length=pre.length+ (post.length+1):=by rw[hk];simp
  have hw1:IntKind.i64.wrap ((pre.length:Int)+1)=(pre.length:Int)+1:=Ql (by omega) (by omega)
  have hlt: (pre.length:Int) < (t.kids.length:Int):=by omega
  simp only[nodesL]at ha
  obtain⟨bs',hc,hw'⟩:=ih x (by rw[hk];simp) acc bs hw (by omega)
  have hfl: ((QY x).filter (ZZ k)).length≤x.nodes:=by rw[← XG];exact List.length_filter_le _ _
  have h2:=fun ρ=>IH (pre ++ [x]) _ bs' ρ (by rw[hk];simp) hw' (by rw[List.length_append];omega)
  rw[List.append_assoc,← List.filter_append,show QY x ++ allL post=allL (x:: post) by simp[allL]]at h2
  rw[Qc F.f168l0.eq_1]
  simp[h1,h10,h11,h12,hg,hlt,hw1,hc]
  refine h2 _ ?_ ?_ ?_ ?_ <;> simp[h1,h10,h11]
theorem Qa2 (B0:List (List AV)) (k:Int): ∀(t:Tm) (acc:List Tm) (bs:List (List AV)),t.mass < 100000000→Wst B0 k acc bs→acc.length+t.nodes < 100000000→
  WOk B0 k (acc ++ (QY t).filter (ZZ k)) (call F.tb 168 [.agg (Qa t),.fn 167 [.gp B0.length 0,.gp (B0.length+1) 0]] bs):=by
 refine Zh ?_
 intro kk n s ks ih acc bs hm hw ha
 have hmk:=Qo (.mk kk n s ks)
 have hnk:=ZO (.mk kk n s ks)
 simp only[QJ,Q3]at hmk hnk
 obtain⟨bs1,hc,hw1⟩:=CK B0 k acc bs (.mk kk n s ks) hw (by omega)
 have hl:=fun ρ=>Qcs B0 k (.mk kk n s ks) bs hm (fun x hx acc bs hw ha=>ih x hx acc bs (by have:=Qz hx;simp at this;omega) hw ha) ks [] _ bs1 ρ rfl hw1 (by
  rw[List.length_append];split <;> simp <;> omega)
 have he:acc ++ (QY (.mk kk n s ks)).filter (ZZ k)=(acc ++ if(Tm.mk kk n s ks).kind=k then [.mk kk n s ks]else [])++ (allL ks).filter (ZZ k):=by
  simp only[QY,List.filter_cons,ZZ,Xi]
  by_cases h:kk=k <;> simp[h]
 rw[he,Qb F.tb_168 _ _ rfl]
 simp[F.f168B,F.f168C,hc]
 simp only[Xi,QJ,List.append_assoc]at hl
 refine hl _ ?_ ?_ ?_ ?_ <;> simp[Qj]
theorem Mf (t:Tm) (k:Int) (B:List (List AV)) (hm:t.mass < 100000000):
  call F.tb 166 [.agg (Qa t),.int .i64 k] B=some (.sl true 4 (encTs (Xm ((QY t).filter (ZZ k)))),B):=by
 have hn:=Zj t
 have hw0:Wst B k [] (B ++ [[.int .i64 k],[.gs 0 0 0 0]]):=by
  refine⟨by simp,by simp,by simp,.inl ⟨rfl,?_⟩⟩
  rw[List.getElem?_append_right (by omega)];simp
 obtain⟨bs',hc,h1,h2,h3,h4⟩:=Qa2 B k t [] _ hm hw0 (by simp;omega)
 rw[Qb F.tb_166 _ _ rfl]
 have e1: (B ++ [[AV.int .i64 k]])++ [[AV.gs 0 0 0 0]]=B ++ [[.int .i64 k],[.gs 0 0 0 0]]:=by simp
 have e2: (B ++ [[AV.int .i64 k]]).length=B.length+1:=by simp
 generalize hF: (QY t).filter (ZZ k)=A at *
 have hlen:A.length < 100000000:=by rw[← hF];have:=List.length_filter_le (ZZ k) (QY t);rw[XG]at this;omega
 have hmm: ∀x∈A,x.mass < big:=fun x hx=>by
  rw[← hF]at hx
  have:=XA t x (List.mem_filter.1 hx).1
  unfold big;omega
 have hgp:gpfreeE (encTs (Xm A))=true:=encTs_gp _
 simp only[List.nil_append]at h4
 rcases h4 with⟨h5,h6⟩ | ⟨h5,g,h6,h7,h8⟩
 ·have ho:=JY bs'
  subst h5
  simp[F.f166,F.f166C,QE,e1,e2,hc,h6,ho,h2,Xm,WO,encTs]
 ·have ho:=Gk A bs' g h8 h5 hlen hmm
  have hgl:=Ug h8
  have ht: (bs'.set g []).take B.length=B:=by rw[List.take_set_of_le (by omega)];exact h2
  simp[F.f166,F.f166C,QE,e1,e2,hc,h7,ho,ht,hgp]
def VG (t:Tm):List Tm:=Xm ((QY t).filter (ZZ 1))
def Xn (t:Tm):List Tm:=Xm ((QY t).filter (ZZ 2))
theorem QaZ (t:Tm) (B:List (List AV)) (hm:t.mass < 100000000):call F.tb 165 [.agg (Qa t)] B=some (.sl true 4 (encTs (VG t)),B):=by
 rw[Qb F.tb_165 _ _ rfl]
 have h:=Mf t 1 B hm
 have hgp:gpfreeE (encTs (Xm ((QY t).filter (ZZ 1))))=true:=encTs_gp _
 simp[F.f165,F.f165C,QE,h,VG]
theorem CB (t:Tm) (B:List (List AV)) (hm:t.mass < 100000000):call F.tb 210 [.agg (Qa t)] B=some (.sl true 4 (encTs (Xn t)),B):=by
 rw[Qb F.tb_210 _ _ rfl]
 have h:=Mf t 2 B hm
 simp[F.f210,F.f210C,QE,h,Xn]
end Go.Am
namespace Go.Am
set_option maxRecDepth 8000
theorem Yr {n:Nat} (h:n≤200000000):n*56≤140737488355328:=by omega
theorem Qcx (t:Tm) (bs:List (List AV)) (hm:t.mass < 100000000) (ih: ∀x∈t.kids,∀bs,call F.tb 237 [.agg (Qa x)] bs=some (.sl false 4 (encTs (QY x)),bs)):
  ∀(post pre:List Tm) (ρ:Nat→AV),t.kids=pre ++ post→ρ 1= .bx (Qa t)→ρ 3= .sl true 4 (encTs (t:: allL pre))→ρ 4= .int .i64 pre.length→
  R F.tb (.loop F.f237l0) ρ bs (Qk 0 (Qv F.tb F.f237r0 (Qx F.f237 bs)))=some (.sl false 4 (encTs (QY t)),bs):=by
 have hmk:=Qo t
 have hn:=Zj t
 have hnk:=ZO t
 intro post
 induction post with
 | nil=>
  intro pre ρ hk h1 h3 h4
  simp only[List.append_nil]at hk
  rw[← hk]at h3 h4
  rw[← Qfw]at h3
  rw[Qc F.f237l0.eq_1]
  simp[h1,h3,h4,F.f237r0,F.f237R,F.f237K]
 | cons x post IH=>
  intro pre ρ hk h1 h3 h4
  have hg:=Qp hk
  have hl:t.kids.length=pre.length+ (post.length+1):=by rw[hk];simp
  have hw1:IntKind.i64.wrap ((pre.length:Int)+1)=(pre.length:Int)+1:=Ql (by omega) (by omega)
  have hlt: (pre.length:Int) < (t.kids.length:Int):=by omega
  have hnn:nodesL t.kids=nodesL pre+ (x.nodes+nodesL post):=by rw[hk,Yj];simp[nodesL]
  have hb: ((allL pre).length+1+ (QY x).length)*56≤140737488355328:=by rw[allL_len,XG];omega
  have hgl:t.kids[pre.length]'(by omega)=x:=by
   have:=List.getElem?_eq_getElem (l:=t.kids) (i:=pre.length) (by omega)
   rw[hg]at this;injection this with this;exact this.symm
  have hih:=ih x (by rw[hk];simp)
  have h2:=IH (pre ++ [x])
  rw[HX,show allL [x]=QY x by simp[allL]]at h2
  rw[Qc F.f237l0.eq_1]
  simp[h1,h3,h4,hg,hgl,hlt,hw1,hih,hb,QQ]
  rw[h2] <;> simp[h1,hk]
theorem Uv: ∀(t:Tm) (bs:List (List AV)),t.mass < 100000000→call F.tb 237 [.agg (Qa t)] bs=some (.sl false 4 (encTs (QY t)),bs):=by
 refine Zh ?_
 intro k n s ks ih bs hm
 have hl:=fun ρ=>Qcx (.mk k n s ks) bs hm (fun x hx bs=>ih x hx bs (by have:=Qz hx;have:=Qo (.mk k n s ks);simp at *;omega)) ks [] ρ rfl
 rw[Qb F.tb_237 _ _ rfl]
 simp[F.f237B,F.f237C,QE]
 refine hl _ ?_ ?_ ?_ <;> simp[allL,encTs]
theorem Qcw (l:List Tm) (t:Tm) (bs:List (List AV)) (hl:l.length < 100000000) (hm: ∀x∈l,x.mass < big) (ht:t.mass < big):
  ∀(post pre acc:List Tm) (d:Bool) (ρ:Nat→AV),l=pre ++ post→acc.length≤pre.length+1→(d=false→acc.length=pre.length)→ρ 0= .sl false 4 (encTs l)→ρ 3= .bx (Qa t)→ρ 5= .sl true 4 (encTs acc)→ρ 6= .bool d→ρ 7= .int .i64 pre.length→
  R F.tb (.loop F.f239l0) ρ bs (Qk 0 (Qv F.tb F.f239r0 (Qx F.f239 bs)))=some (.sl false 4 (encTs (acc ++ if d then post else Yn t post)),bs):=by
 intro post
 induction post with
 | nil=>
  intro pre acc d ρ hk ha hd h0 h3 h5 h6 h7
  simp only[List.append_nil]at hk
  rw[← hk]at h7 ha hd
  have hb: (acc.length+1)*56≤140737488355328:=by omega
  rw[Qc F.f239l0.eq_1]
  cases d
  ·simp[h0,h3,h5,h6,h7,F.f239r0,F.f239R,F.f239K,hb,Yn,QE,Zb,QQ]
  ·simp[h0,h3,h5,h6,h7,F.f239r0,F.f239R,F.f239K,hb,Yn]
 | cons x post IH=>
  intro pre acc d ρ hk ha hd h0 h3 h5 h6 h7
  have hg:=Qp hk
  have hll:l.length=pre.length+ (post.length+1):=by rw[hk];simp
  have hw1:IntKind.i64.wrap ((pre.length:Int)+1)=(pre.length:Int)+1:=Ql (by omega) (by omega)
  have hlt: (pre.length:Int) < (l.length:Int):=by omega
  have hb: (acc.length+1)*56≤140737488355328:=Yr (by omega)
  have hb2: (acc.length+1+1)*56≤140737488355328:=Yr (by clear hb;omega)
  have hc:=XW t x bs ht (hm x (by rw[hk];simp))
  rw[Qc F.f239l0.eq_1]
  cases d
  ·have hd:=hd rfl
   by_cases h1:Qm t x < 0
   ·have hle:Qm t x≤0:=by omega
    have e:acc ++ (if false=true then x:: post else Yn t (x:: post))=(acc ++ [t]++ [x])++ (if true=true then post else Yn t post):=by simp[Yn,h1]
    rw[e]
    simp[h0,h3,h5,h6,h7,hg,hlt,hw1,hc,h1,hle,hb,hb2,QE,Zb,QQ]
    clear hb hb2
    rw[IH (pre ++ [x]) (acc ++ [t]++ [x]) true] <;> simp[h0,h3,hk] <;> omega
   ·by_cases h2:Qm t x=0
    ·have e:acc ++ (if false=true then x:: post else Yn t (x:: post))=(acc ++ [x])++ (if true=true then post else Yn t post):=by simp[Yn,h2]
     rw[e]
     simp[h0,h3,h5,h6,h7,hg,hlt,hw1,hc,h1,h2,hb,QE,Zb,QQ]
     clear hb hb2
     rw[IH (pre ++ [x]) (acc ++ [x]) true] <;> simp[h0,h3,hk] <;> omega
    ·have hle: ¬Qm t x≤0:=by omega
     have e:acc ++ (if false=true then x:: post else Yn t (x:: post))=(acc ++ [x])++ (if false=true then post else Yn t post):=by simp[Yn,h1,h2]
     rw[e]
     simp[h0,h3,h5,h6,h7,hg,hlt,hw1,hc,h1,h2,hle,hb,QE,Zb,QQ]
     clear hb hb2
     rw[IH (pre ++ [x]) (acc ++ [x]) false] <;> simp[h0,h3,hk] <;> omega
  ·have e:acc ++ (if true=true then x:: post else Yn t (x:: post))=(acc ++ [x])++ (if true=true then post else Yn t post):=by simp
   rw[e]
   simp[h0,h3,h5,h6,h7,hg,hlt,hw1,hc,hb,QE,Zb,QQ]
   clear hb hb2
   rw[IH (pre ++ [x]) (acc ++ [x]) true] <;> simp[h0,h3,hk] <;> omega
theorem H7 (l:List Tm) (t:Tm) (o:Bool) (bs:List (List AV)) (hl:l.length < 100000000) (hm: ∀x∈l,x.mass < big) (ht:t.mass < big):
  call F.tb 239 [.sl o 4 (encTs l),.agg (Qa t)] bs=some (.sl false 4 (encTs (Yn t l)),bs):=by
 have h:=fun ρ=>Qcw l t bs hl hm ht l [] [] false ρ rfl (by simp) (fun _=>rfl)
 rw[Qb F.tb_239 _ _ rfl]
 simp[F.f239B,F.f239C]
 simp at h
 refine h _ ?_ ?_ ?_ ?_ ?_ <;> simp[encTs]
theorem QcH (l:List Tm) (bs:List (List AV)) (hl:l.length < 100000000) (hm: ∀x∈l,x.mass < big):
  ∀(post pre acc:List Tm) (o:Bool) (ρ:Nat→AV),l=pre ++ post→acc.length≤pre.length→(∀x∈acc,x.mass < big)→ρ 0= .sl false 4 (encTs l)→ρ 3= .sl o 4 (encTs acc)→ρ 4= .int .i64 pre.length→
  R F.tb (.loop F.f238l0) ρ bs (Qk 0 (Qv F.tb F.f238r0 (Qx F.f238 bs)))=some (.sl false 4 (encTs (WO acc post)),bs):=by
 intro post
 induction post with
 | nil=>
  intro pre acc o ρ hk ha hma h0 h3 h4
  simp only[List.append_nil]at hk
  rw[← hk]at h4
  rw[Qc F.f238l0.eq_1]
  simp[h0,h3,h4,F.f238r0,F.f238R,F.f238K,WO]
 | cons x post IH=>
  intro pre acc o ρ hk ha hma h0 h3 h4
  have hg:=Qp hk
  have hll:l.length=pre.length+ (post.length+1):=by rw[hk];simp
  have hw1:IntKind.i64.wrap ((pre.length:Int)+1)=(pre.length:Int)+1:=Ql (by omega) (by omega)
  have hlt: (pre.length:Int) < (l.length:Int):=by omega
  have hx:=hm x (by rw[hk];simp)
  have hc:=H7 acc x false bs (by omega) hma hx
  have hln:=P6 x acc
  rw[Qc F.f238l0.eq_1]
  simp[h0,h3,h4,hg,hlt,hw1,hc]
  rw[IH (pre ++ [x]) (Yn x acc) false] <;> (try simp[h0,hk,WO])
  ·omega
  ·intro y hy
   rcases Sn.1 hy with rfl | hy
   ·exact hx
   ·exact hma y hy
theorem Gf (l:List Tm) (o:Bool) (bs:List (List AV)) (hl:l.length < 100000000) (hm: ∀x∈l,x.mass < big):
  call F.tb 238 [.sl o 4 (encTs l)] bs=some (.sl false 4 (encTs (Xm l)),bs):=by
 have h:=fun ρ=>QcH l bs hl hm l [] [] true ρ rfl (by simp) (by simp)
 rw[Qb F.tb_238 _ _ rfl]
 simp[F.f238B,F.f238C]
 refine h _ ?_ ?_ ?_ <;> simp[encTs]
theorem JR (l:List Tm) (bs:List (List AV)) (hl:l.length < 100000000) (hm:massL l < 100000000):
  ∀(post pre:List Tm) (ρ:Nat→AV),l=pre ++ post→ρ 0= .sl false 4 (encTs l)→ρ 3= .sl true 4 (encTs (allL pre))→ρ 4= .int .i64 pre.length→
  R F.tb (.loop F.f265l0) ρ bs (Qk 0 (Qv F.tb F.f265r0 (Qx F.f265 bs)))=some (.sl false 4 (encTs (Xm (allL l))),bs):=by
 have hnm:=nodesL_le_mass l
 intro post
 induction post with
 | nil=>
  intro pre ρ hk h0 h3 h4
  simp only[List.append_nil]at hk
  rw[← hk]at h4 h3
  have hc:=fun o=>Gf (allL l) o bs (by rw[allL_len];omega) (fun x hx=>by have:=allL_mass l x hx;unfold big;omega)
  rw[Qc F.f265l0.eq_1]
  simp[h0,h3,h4,F.f265r0,F.f265R,F.f265K,hc]
 | cons x post IH=>
  intro pre ρ hk h0 h3 h4
  have hg:=Qp hk
  have hll:l.length=pre.length+ (post.length+1):=by rw[hk];simp
  have hw1:IntKind.i64.wrap ((pre.length:Int)+1)=(pre.length:Int)+1:=Ql (by omega) (by omega)
  have hlt: (pre.length:Int) < (l.length:Int):=by omega
  have hxm:x∈l:=by rw[hk];simp
  have hc:=Uv x bs (by have:=Qz hxm;omega)
  have hnn:nodesL l=nodesL pre+ (x.nodes+nodesL post):=by rw[hk,Yj];simp[nodesL]
  have hb: ((allL pre).length+ (QY x).length)*56≤140737488355328:=by rw[allL_len,XG];omega
  have h2:=IH (pre ++ [x])
  rw[HX,show allL [x]=QY x by simp[allL]]at h2
  rw[Qc F.f265l0.eq_1]
  simp[h0,h3,h4,hg,hlt,hw1,hc,hb,QQ]
  rw[h2] <;> simp[h0,hk]
theorem JX (l:List Tm) (o:Bool) (bs:List (List AV)) (hl:l.length < 100000000) (hm:massL l < 100000000):
  call F.tb 265 [.sl o 4 (encTs l)] bs=some (.sl false 4 (encTs (Xm (allL l))),bs):=by
 have h:=fun ρ=>JR l bs hl hm l [] ρ rfl
 rw[Qb F.tb_265 _ _ rfl]
 simp[F.f265B,F.f265C]
 refine h _ ?_ ?_ ?_ <;> simp[encTs,allL]
theorem QbF (t:Tm) (k:Int) (bs:List (List AV)) (hm:t.mass < 100000000):
  ∀(post pre:List Tm) (o:Bool) (ρ:Nat→AV),QY t=pre ++ post→ρ 1= .int .i64 k→ρ 5= .sl true 4 (encTs (pre.filter (ZZ k)))→ρ 6= .sl o 4 (encTs (QY t))→ρ 7= .int .i64 pre.length→
  R F.tb (.loop F.f236l0) ρ bs (Qk 0 (Qv F.tb F.f236r0 (Qx F.f236 bs)))=some (.sl false 4 (encTs (Xm ((QY t).filter (ZZ k)))),bs):=by
 have hn:=Zj t
 have hal:=XG t
 intro post
 induction post with
 | nil=>
  intro pre o ρ hk h1 h5 h6 h7
  simp only[List.append_nil]at hk
  rw[← hk]at h5 h7
  have hfl:=List.length_filter_le (ZZ k) (QY t)
  have hc:=fun o=>Gf ((QY t).filter (ZZ k)) o bs (by omega) (fun x hx=>by have:=XA t x (List.mem_filter.1 hx).1;unfold big;omega)
  rw[Qc F.f236l0.eq_1]
  simp[h1,h5,h6,h7,F.f236r0,F.f236R,F.f236K,hc]
 | cons x post IH=>
  intro pre o ρ hk h1 h5 h6 h7
  have hg:=Qp hk
  have hll: (QY t).length=pre.length+ (post.length+1):=by rw[hk];simp
  have hw1:IntKind.i64.wrap ((pre.length:Int)+1)=(pre.length:Int)+1:=Ql (by omega) (by omega)
  have hlt: (pre.length:Int) < ((QY t).length:Int):=by omega
  have hfl:=List.length_filter_le (ZZ k) pre
  have hb: ((pre.filter (ZZ k)).length+1)*56≤140737488355328:=by omega
  have h2:=IH (pre ++ [x]) o
  rw[Qc F.f236l0.eq_1]
  by_cases hx:x.kind=k
  ·have hf: (pre ++ [x]).filter (ZZ k)=pre.filter (ZZ k)++ [x]:=by simp[List.filter_cons,ZZ,hx]
   rw[hf]at h2
   simp[h1,h5,h6,h7,hg,hlt,hw1,hx,hb,QE,Zb,QQ]
   rw[h2] <;> simp[h1,h6,hk]
  ·have hf: (pre ++ [x]).filter (ZZ k)=pre.filter (ZZ k):=by simp[List.filter_cons,ZZ,hx]
   rw[hf]at h2
   simp[h1,h5,h6,h7,hg,hlt,hw1,hx]
   rw[h2] <;> simp[h1,h5,h6,hk]
theorem CE (t:Tm) (k:Int) (bs:List (List AV)) (hm:t.mass < 100000000):call F.tb 236 [.agg (Qa t),.int .i64 k] bs=some (.sl false 4 (encTs (Xm ((QY t).filter (ZZ k)))),bs):=by
 have h:=fun o ρ=>QbF t k bs hm (QY t) [] o ρ rfl
 have hc:=Uv t bs hm
 rw[Qb F.tb_236 _ _ rfl]
 simp[F.f236B,F.f236C,QE,hc]
 refine h false _ ?_ ?_ ?_ ?_ <;> simp[encTs]
theorem CD (t:Tm) (bs:List (List AV)) (hm:t.mass < 100000000):call F.tb 235 [.agg (Qa t)] bs=some (.sl false 4 (encTs (VG t)),bs):=by
 have h:=CE t 1 bs hm
 rw[Qb F.tb_235 _ _ rfl]
 simp[F.f235,F.f235C,QE,h,VG]
theorem FE (t:Tm) (bs:List (List AV)) (hm:t.mass < 100000000):call F.tb 234 [.agg (Qa t)] bs=some (.bool (decide ((VG t)=[])),bs):=by
 have h:=CD t bs hm
 rw[Qb F.tb_234 _ _ rfl]
 simp[F.f234,F.f234C,QE,h]
end Go.Am
namespace Go.Am
set_option maxRecDepth 8000
def W8 (l:List Tm) (t:Tm):Bool:=l.any fun x=>decide (Qm x t=0)
theorem MK {l:List Tm} {t:Tm}:W8 l t=true↔t∈l:=by
 simp only[W8,List.any_eq_true,decide_eq_true_eq]
 constructor
 ·rintro⟨x,hx,h⟩;rw[← Z6 _ _ h];exact hx
 ·intro h;exact⟨t,h,Y8 t⟩
def Wn (l:List Tm) (t:Tm):List Tm:=if W8 l t then l.filter (fun x=> !decide (Qm x t=0))else Yn t l
def Yb (a b:List Tm):List Tm:=b.foldl Wn a
theorem Cx {l:List Tm} (p:Tm→Bool) (h:Asc l):Asc (l.filter p):=List.Pairwise.filter _ h
theorem QcN {l:List Tm} (t:Tm) (h:Asc l):Asc (Wn l t):=by
 unfold Wn
 split
 ·exact Cx _ h
 ·exact Mu h
theorem GY {l:List Tm} {t y:Tm}:y∈Wn l t↔(y∈l∧y≠t)∨(y=t∧t ∉ l):=by
 unfold Wn
 split
 ·rename_i h
  rw[MK]at h
  simp only[List.mem_filter,Bool.not_eq_true',decide_eq_false_iff_not,Gv]
  constructor
  ·rintro⟨h1,h2⟩;exact .inl ⟨h1,h2⟩
  ·rintro(⟨h1,h2⟩ | ⟨rfl,h2⟩)
   ·exact⟨h1,h2⟩
   ·exact absurd h h2
 ·rename_i h
  rw[MK]at h
  rw[Sn]
  constructor
  ·rintro(rfl | h1)
   ·exact .inr ⟨rfl,h⟩
   ·refine .inl ⟨h1,fun e=> ?_⟩
    subst e;exact h h1
  ·rintro(⟨h1,h2⟩ | ⟨h1,h2⟩)
   ·exact .inr h1
   ·exact .inl h1
theorem UY: ∀(b a:List Tm),Asc a→Asc (Yb a b)
 | [],_,h=>h
 | x:: b,a,h=>UY b _ (QcN x h)
theorem Nv {y:Tm}: ∀{b a:List Tm},Asc b→(y∈Yb a b↔(y∈a∧y ∉ b)∨(y ∉ a∧y∈b))
 | [],a,_=>by simp[Yb]
 | x:: b,a,h=>by
  rw[Ye]at h
  have ih:=Nv (y:=y) (b:=b) (a:=Wn a x) h.2
  have hxb:x ∉ b:=fun hm=>Wu x (h.1 x hm)
  simp only[Yb,List.foldl_cons]at ih ⊢
  rw[ih,GY]
  simp only[List.mem_cons]
  by_cases e:y=x
  ·subst e
   by_cases hy:y∈a <;> simp[hy,hxb]
  ·by_cases hy:y∈a <;> by_cases hb:y∈b <;> simp[hy,hb,e]
theorem Vd: ∀(b a:List Tm),(Yb a b).length≤a.length+b.length
 | [],a=>by simp[Yb]
 | x:: b,a=>by
  have ih:=Vd b (Wn a x)
  have: (Wn a x).length≤a.length+1:=by
   unfold Wn
   split
   ·have:=List.length_filter_le (fun y=> !decide (Qm y x=0)) a;omega
   ·exact P6 x a
  simp only[Yb,List.foldl_cons,List.length_cons]at ih ⊢
  omega
def Xw:List Tm→List Tm→List Tm
 | [],b=>b
 | a,[]=>a
 | x:: a,y:: b=>if Qm x y < 0 then x:: Xw a (y:: b)else if 0 < Qm x y then y:: Xw (x:: a) b else Xw a b
termination_by a b=>a.length+b.length
theorem Ny (b:List Tm):Xw [] b=b:=by rw[Xw]
theorem Ov (a:List Tm):Xw a []=a:=by cases a <;> rw[Xw];simp
theorem Ou (x y:Tm) (a b:List Tm):Xw (x:: a) (y:: b)=if Qm x y < 0 then x:: Xw a (y:: b)else if 0 < Qm x y then y:: Xw (x:: a) b else Xw a b:=by rw[Xw]
theorem VX {y:Tm}: ∀(n:Nat) (a b:List Tm),a.length+b.length≤n→Asc a→Asc b→(y∈Xw a b↔(y∈a∧y ∉ b)∨(y ∉ a∧y∈b))
 | _,[],b,_,_,_=>by rw[Ny];simp
 | _,x:: a,[],_,_,_=>by rw[Ov];simp
 | 0,x:: a,z:: b,h,_,_=>by simp at h
 | n+1,x:: a,z:: b,h,ha,hb=>by
  have ha0:=ha
  have hb0:=hb
  rw[Ye]at ha hb
  simp only[List.length_cons]at h
  rw[Ou]
  split
  ·rename_i h1
   rw[List.mem_cons,VX n a (z:: b) (by simp;omega) ha.2 hb0]
   have hxb:x ∉ z:: b:=fun hm=>by
    rcases List.mem_cons.1 hm with e | e
    ·subst e;exact Wu x h1
    ·exact Wu x (Ys h1 (hb.1 x e))
   have hxa:x ∉ a:=fun hm=>Wu x (ha.1 x hm)
   by_cases e:y=x
   ·subst e;simp[hxb]
   ·simp[e]
  ·rename_i h1
   split
   ·rename_i h2
    have h2':=Ly.1 h2
    rw[List.mem_cons,VX n (x:: a) b (by simp;omega) ha0 hb.2]
    have hza:z ∉ x:: a:=fun hm=>by
     rcases List.mem_cons.1 hm with e | e
     ·subst e;exact Wu z h2'
     ·exact Wu z (Ys h2' (ha.1 z e))
    have hzb:z ∉ b:=fun hm=>Wu z (hb.1 z hm)
    by_cases e:y=z
    ·subst e;simp[hza]
    ·simp[e]
   ·rename_i h2
    have e0:=Z6 x z (by omega)
    subst e0
    rw[VX n a b (by omega) ha.2 hb.2]
    have hxa:x ∉ a:=fun hm=>Wu x (ha.1 x hm)
    have hxb:x ∉ b:=fun hm=>Wu x (hb.1 x hm)
    by_cases e:y=x
    ·subst e;simp[hxa,hxb]
    ·simp[e]
theorem SE: ∀(n:Nat) (a b:List Tm),a.length+b.length≤n→Asc a→Asc b→Asc (Xw a b)
 | _,[],b,_,_,hb=>by rw[Ny];exact hb
 | _,x:: a,[],_,ha,_=>by rw[Ov];exact ha
 | 0,x:: a,z:: b,h,_,_=>by simp at h
 | n+1,x:: a,z:: b,h,ha,hb=>by
  have ha0:=ha
  have hb0:=hb
  rw[Ye]at ha hb
  simp only[List.length_cons]at h
  rw[Ou]
  split
  ·rename_i h1
   rw[Ye]
   refine⟨fun y hy=> ?_,SE n a (z:: b) (by simp;omega) ha.2 hb0⟩
   rw[VX n a (z:: b) (by simp;omega) ha.2 hb0]at hy
   rcases hy with⟨hy,_⟩ | ⟨_,hy⟩
   ·exact ha.1 y hy
   ·rcases List.mem_cons.1 hy with e | e
    ·subst e;exact h1
    ·exact Ys h1 (hb.1 y e)
  ·rename_i h1
   split
   ·rename_i h2
    have h2':=Ly.1 h2
    rw[Ye]
    refine⟨fun y hy=> ?_,SE n (x:: a) b (by simp;omega) ha0 hb.2⟩
    rw[VX n (x:: a) b (by simp;omega) ha0 hb.2]at hy
    rcases hy with⟨hy,_⟩ | ⟨_,hy⟩
    ·rcases List.mem_cons.1 hy with e | e
     ·subst e;exact h2'
     ·exact Ys h2' (ha.1 y e)
    ·exact hb.1 y hy
   ·exact SE n a b (by omega) ha.2 hb.2
theorem G9 {a b:List Tm} (ha:Asc a) (hb:Asc b):Xw a b=Yb a b:=
 NS (SE _ a b (Nat.le_refl _) ha hb) (UY b a ha) fun x=>by rw[VX _ a b (Nat.le_refl _) ha hb,Nv hb]
def Zq:List UInt8:=[122,101,114,111]
def XOR:List UInt8:=[120,111,114]
mutual
def Zr:Tm→List Tm
 | .mk k n s ks=>if k=3∧n=Zq∧ks=[]then []else if k=3∧n=XOR then sumL [] ks else [.mk k n s ks]
def sumL (acc:List Tm):List Tm→List Tm
 | []=>acc
 | t:: ts=>sumL (Yb acc (Zr t)) ts
end
mutual
theorem VI: ∀t:Tm,Asc (Zr t)
 | .mk k n s ks=>by
  simp only[Zr]
  split
  ·exact Asc.nil
  ·split
   ·exact asc_sumL ks [] Asc.nil
   ·exact NT _
theorem asc_sumL: ∀(ts acc:List Tm),Asc acc→Asc (sumL acc ts)
 | [],_,h=>h
 | t:: ts,acc,h=>asc_sumL ts _ (UY _ _ h)
end
theorem Va {y:Tm} {b a:List Tm} (hb:Asc b) (h:y∈Yb a b):y∈a∨y∈b:=by
 rw[Nv hb]at h
 rcases h with h | h
 ·exact .inl h.1
 ·exact .inr h.2
mutual
theorem Sz: ∀(t y:Tm),y∈Zr t→y∈QY t
 | .mk k n s ks,y,h=>by
  simp only[Zr]at h
  simp only[QY,List.mem_cons]
  split at h
  ·simp at h
  ·split at h
   ·rcases sumL_mem ks [] y h with h | h
    ·simp at h
    ·exact .inr h
   ·simp at h;exact .inl h
theorem sumL_mem: ∀(ts acc:List Tm) (y:Tm),y∈sumL acc ts→y∈acc∨y∈allL ts
 | [],acc,y,h=> .inl h
 | t:: ts,acc,y,h=>by
  simp only[allL,List.mem_append]
  rcases sumL_mem ts _ y h with h | h
  ·rcases Va (VI t) h with h | h
   ·exact .inl h
   ·exact .inr (.inl (Sz t y h))
  ·exact .inr (.inr h)
end
mutual
theorem Sx: ∀t:Tm,(Zr t).length≤t.nodes
 | .mk k n s ks=>by
  simp only[Zr,Tm.nodes]
  split
  ·simp
  ·split
   ·have:=sumL_len ks [];simp at this;omega
   ·simp
theorem sumL_len: ∀(ts acc:List Tm),(sumL acc ts).length≤acc.length+nodesL ts
 | [],acc=>by simp[sumL,nodesL]
 | t:: ts,acc=>by
  have h1:=sumL_len ts (Yb acc (Zr t))
  have h2:=Vd (Zr t) acc
  have h3:=Sx t
  simp only[sumL,nodesL]at *
  omega
end
theorem JU (l:List Tm) (t:Tm) (bs:List (List AV)) (hl:l.length < 100000000) (hm: ∀x∈l,x.mass < big) (ht:t.mass < big):
  ∀(post pre:List Tm) (ρ:Nat→AV),l=pre ++ post→ρ 0= .sl false 4 (encTs l)→ρ 3= .bx (Qa t)→ρ 5= .int .i64 pre.length→
  R F.tb (.loop F.f250l0) ρ bs (Qk 0 (Qv F.tb F.f250r0 (Qx F.f250 bs)))=some (.bool (W8 post t),bs):=by
 intro post
 induction post with
 | nil=>
  intro pre ρ hk h0 h3 h5
  simp only[List.append_nil]at hk
  rw[← hk]at h5
  rw[Qc F.f250l0.eq_1]
  simp[h0,h3,h5,F.f250r0,F.f250R,F.f250K,W8]
 | cons x post IH=>
  intro pre ρ hk h0 h3 h5
  have hg:=Qp hk
  have hll:l.length=pre.length+ (post.length+1):=by rw[hk];simp
  have hw1:IntKind.i64.wrap ((pre.length:Int)+1)=(pre.length:Int)+1:=Ql (by omega) (by omega)
  have hlt: (pre.length:Int) < (l.length:Int):=by omega
  have hc:=Z8 x t bs (hm x (by rw[hk];simp)) ht
  rw[Qc F.f250l0.eq_1]
  by_cases he:Qm x t=0
  ·simp[h0,h3,h5,hg,hlt,hw1,hc,he,QE,W8,F.f250R,F.f250K]
  ·have e:W8 (x:: post) t=W8 post t:=by simp[W8,he]
   rw[e]
   simp[h0,h3,h5,hg,hlt,hw1,hc,he,QE]
   rw[IH (pre ++ [x])] <;> simp[h0,h3,hk]
theorem My (l:List Tm) (t:Tm) (o:Bool) (bs:List (List AV)) (hl:l.length < 100000000) (hm: ∀x∈l,x.mass < big) (ht:t.mass < big):
  call F.tb 250 [.sl o 4 (encTs l),.agg (Qa t)] bs=some (.bool (W8 l t),bs):=by
 have h:=fun ρ=>JU l t bs hl hm ht l [] ρ rfl
 rw[Qb F.tb_250 _ _ rfl]
 simp[F.f250B,F.f250C]
 refine h _ ?_ ?_ ?_ <;> simp
theorem Qek (l:List Tm) (t:Tm) (bs:List (List AV)) (hl:l.length < 100000000) (hm: ∀x∈l,x.mass < big) (ht:t.mass < big):
  ∀(post pre:List Tm) (ρ:Nat→AV),l=pre ++ post→ρ 0= .sl false 4 (encTs l)→ρ 3= .bx (Qa t)→ρ 5= .sl true 4 (encTs (pre.filter (fun x=> !decide (Qm x t=0))))→ρ 6= .int .i64 pre.length→
  R F.tb (.loop F.f249l0) ρ bs (Qk 0 (Qv F.tb F.f249r0 (Qx F.f249 bs)))=some (.sl false 4 (encTs (l.filter (fun x=> !decide (Qm x t=0)))),bs):=by
 intro post
 induction post with
 | nil=>
  intro pre ρ hk h0 h3 h5 h6
  simp only[List.append_nil]at hk
  rw[← hk]at h5 h6
  rw[Qc F.f249l0.eq_1]
  simp[h0,h3,h5,h6,F.f249r0,F.f249R,F.f249K]
 | cons x post IH=>
  intro pre ρ hk h0 h3 h5 h6
  have hg:=Qp hk
  have hll:l.length=pre.length+ (post.length+1):=by rw[hk];simp
  have hw1:IntKind.i64.wrap ((pre.length:Int)+1)=(pre.length:Int)+1:=Ql (by omega) (by omega)
  have hlt: (pre.length:Int) < (l.length:Int):=by omega
  have hfl:=List.length_filter_le (fun x=> !decide (Qm x t=0)) pre
  have hb: ((pre.filter (fun x=> !decide (Qm x t=0))).length+1)*56≤140737488355328:=Yr (by omega)
  have hc:=Z8 x t bs (hm x (by rw[hk];simp)) ht
  have h2:=IH (pre ++ [x])
  rw[Qc F.f249l0.eq_1]
  by_cases he:Qm x t=0
  ·have hf: (pre ++ [x]).filter (fun x=> !decide (Qm x t=0))=pre.filter (fun x=> !decide (Qm x t=0)):=by simp[List.filter_cons,he]
   rw[hf]at h2
   generalize pre.filter (fun x=> !decide (Qm x t=0))=pf at *
   generalize l.filter (fun x=> !decide (Qm x t=0))=lf at *
   simp[h0,h3,h5,h6,hg,hlt,hw1,hc,he,QE]
   rw[h2] <;> simp[h0,h3,h5,hk]
  ·have hf: (pre ++ [x]).filter (fun x=> !decide (Qm x t=0))=pre.filter (fun x=> !decide (Qm x t=0))++ [x]:=by simp[List.filter_cons,he]
   rw[hf]at h2
   generalize pre.filter (fun x=> !decide (Qm x t=0))=pf at *
   generalize l.filter (fun x=> !decide (Qm x t=0))=lf at *
   simp[h0,h3,h5,h6,hg,hlt,hw1,hc,he,hb,QE,Zb,QQ]
   rw[h2] <;> simp[h0,h3,hk]
theorem FL (l:List Tm) (t:Tm) (o:Bool) (bs:List (List AV)) (hl:l.length < 100000000) (hm: ∀x∈l,x.mass < big) (ht:t.mass < big):
  call F.tb 249 [.sl o 4 (encTs l),.agg (Qa t)] bs=some (.sl false 4 (encTs (Wn l t)),bs):=by
 have h:=fun ρ=>Qek l t bs hl hm ht l [] ρ rfl
 have hh:=My l t false bs hl hm ht
 have ha:=H7 l t false bs hl hm ht
 rw[Qb F.tb_249 _ _ rfl]
 cases hb:W8 l t
 ·have e:Wn l t=Yn t l:=by simp[Wn,hb]
  rw[e]
  simp[F.f249B,F.f249C,QE,hh,hb,ha,F.f249R,F.f249K]
 ·have e:Wn l t=l.filter (fun x=> !decide (Qm x t=0)):=by simp[Wn,hb]
  rw[e]
  generalize l.filter (fun x=> !decide (Qm x t=0))=lf at *
  simp[F.f249B,F.f249C,QE,hh,hb]
  refine h _ ?_ ?_ ?_ ?_ <;> simp[encTs]
theorem Cd (b:List Tm) (bs:List (List AV)) (hl:b.length < 40000000) (hm: ∀x∈b,x.mass < big):
  ∀(post pre acc:List Tm) (o:Bool) (ρ:Nat→AV),b=pre ++ post→acc.length+post.length < 90000000→(∀x∈acc,x.mass < big)→ρ 1= .sl false 4 (encTs b)→ρ 5= .sl o 4 (encTs acc)→ρ 6= .int .i64 pre.length→
  R F.tb (.loop F.f248l0) ρ bs (Qk 0 (Qv F.tb F.f248r0 (Qx F.f248 bs)))=some (.sl false 4 (encTs (Yb acc post)),bs):=by
 intro post
 induction post with
 | nil=>
  intro pre acc o ρ hk ha hma h1 h5 h6
  simp only[List.append_nil]at hk
  rw[← hk]at h6
  rw[Qc F.f248l0.eq_1]
  simp[h1,h5,h6,F.f248r0,F.f248R,F.f248K,Yb]
 | cons x post IH=>
  intro pre acc o ρ hk ha hma h1 h5 h6
  have hg:=Qp hk
  have hll:b.length=pre.length+ (post.length+1):=by rw[hk];simp
  have hw1:IntKind.i64.wrap ((pre.length:Int)+1)=(pre.length:Int)+1:=Ql (by omega) (by omega)
  have hlt: (pre.length:Int) < (b.length:Int):=by omega
  have hx:=hm x (by rw[hk];simp)
  have hal:acc.length+ (post.length+1) < 90000000:=by simpa using ha
  have hc:=FL acc x false bs (by omega) hma hx
  have htl: (Wn acc x).length≤acc.length+1:=by
   have:=Vd [x] acc;simpa[Yb]using this
  have htm: ∀y∈Wn acc x,y.mass < big:=fun y hy=>by
   rcases GY.1 hy with h | h
   ·exact hma y h.1
   ·rw[h.1];exact hx
  have h2:=fun ρ=>IH (pre ++ [x]) (Wn acc x) false ρ (by rw[hk];simp) (by omega) htm
  rw[Qc F.f248l0.eq_1]
  simp[h1,h5,h6,hg,hlt,hw1,hc]
  rw[show Yb acc (x:: post)=Yb (Wn acc x) post from rfl]
  refine h2 _ ?_ ?_ ?_ <;> simp[h1]
theorem Ll (a b:List Tm) (o o2:Bool) (bs:List (List AV)) (ha:a.length < 40000000) (hb:b.length < 40000000) (hma: ∀x∈a,x.mass < big) (hmb: ∀x∈b,x.mass < big):
  call F.tb 248 [.sl o 4 (encTs a),.sl o2 4 (encTs b)] bs=some (.sl false 4 (encTs (Yb a b)),bs):=by
 have h:=fun o ρ=>Cd b bs hb hmb b [] a o ρ rfl (by omega) hma
 have hlim:a.length*56≤140737488355328:=Yr (by omega)
 rw[Qb F.tb_248 _ _ rfl]
 simp[F.f248B,F.f248C,hlim]
 refine h true _ ?_ ?_ ?_ <;> simp
theorem BR (t:Tm) (bs:List (List AV)) (hm:t.mass < 30000000) (ih: ∀x∈t.kids,∀bs,∃o,call F.tb 247 [.agg (Qa x)] bs=some (.sl o 4 (encTs (Zr x)),bs)):
  ∀(post pre acc:List Tm) (o:Bool) (ρ:Nat→AV),t.kids=pre ++ post→acc.length+nodesL post < 30000000→(∀x∈acc,x.mass < big)→ρ 1= .bx (Qa t)→ρ 3= .sl o 4 (encTs acc)→ρ 4= .int .i64 pre.length→
  R F.tb (.loop F.f247l0) ρ bs (Qk 0 (Qv F.tb F.f247r0 (Qx F.f247 bs)))=some (.sl false 4 (encTs (sumL acc post)),bs):=by
 have hmk:=Qo t
 intro post
 induction post with
 | nil=>
  intro pre acc o ρ hk ha hma h1 h3 h4
  simp only[List.append_nil]at hk
  rw[← hk]at h4
  rw[Qc F.f247l0.eq_1]
  simp[h1,h3,h4,F.f247r0,F.f247R,F.f247K,sumL]
 | cons x post IH=>
  intro pre acc o ρ hk ha hma h1 h3 h4
  have hg:=Qp hk
  have hll:t.kids.length=pre.length+ (post.length+1):=by rw[hk];simp
  have hgl:t.kids[pre.length]'(by omega)=x:=by
   have:=List.getElem?_eq_getElem (l:=t.kids) (i:=pre.length) (by omega)
   rw[hg]at this;injection this with this;exact this.symm
  have hw1:IntKind.i64.wrap ((pre.length:Int)+1)=(pre.length:Int)+1:=Ql (by omega) (by omega)
  have hlt: (pre.length:Int) < (t.kids.length:Int):=by omega
  have hxk:x∈t.kids:=by rw[hk];simp
  have hxm:=Qz hxk
  have hxn:=Zj x
  have hsl:=Sx x
  simp only[nodesL]at ha
  obtain⟨o1,hc1⟩:=ih x hxk bs
  have hsm: ∀y∈Zr x,y.mass < big:=fun y hy=>by have:=XA x y (Sz x y hy);unfold big;omega
  have hc2:=Ll acc (Zr x) false false bs (by omega) (by omega) hma hsm
  have hpl:=Vd (Zr x) acc
  have hpm: ∀y∈Yb acc (Zr x),y.mass < big:=fun y hy=>by
   rcases Va (VI x) hy with h | h
   ·exact hma y h
   ·exact hsm y h
  have h2:=fun ρ=>IH (pre ++ [x]) (Yb acc (Zr x)) false ρ (by rw[hk];simp) (by omega) hpm
  rw[Qc F.f247l0.eq_1]
  simp[h1,h3,h4,hg,hgl,hlt,hw1,hc1,hc2,sumL]
  refine h2 _ ?_ ?_ ?_ <;> simp[h1]
theorem KP: ∀(t:Tm) (bs:List (List AV)),t.mass < 30000000→∃o,call F.tb 247 [.agg (Qa t)] bs=some (.sl o 4 (encTs (Zr t)),bs):=by
 refine Zh ?_
 intro k n s ks ih bs hm
 have hmk:=Qo (.mk k n s ks)
 have hnm:=nodesL_le_mass ks
 simp only[QJ,Q3]at hmk
 have hl:=fun ρ=>BR (.mk k n s ks) bs hm (fun x hx bs=>ih x hx bs (by have:=Qz hx;simp at this;omega)) ks [] [] true ρ rfl (by simp;omega) (by simp)
 rw[Qb F.tb_247 _ _ rfl]
 by_cases hk:k=3
 ·by_cases hz:n=Zq
  ·cases ks with
   | nil=>
    refine⟨true,?_⟩
    simp[F.f247B,F.f247C,Qa,encTs,Zr,hk,hz,Zq,F.f247R,F.f247K]
   | cons x xs=>
    refine⟨true,?_⟩
    simp only[Zq]at hz
    have: ¬((xs.length:Int)+1=0):=by omega
    simp[F.f247B,F.f247C,Qa,Zr,hk,hz,Zq,XOR,this,F.f247R,F.f247K,encTs]
  ·by_cases hx:n=XOR
   ·refine⟨false,?_⟩
    have e:Zr (.mk k n s ks)=sumL [] ks:=by simp[Zr,hk,hx,Zq,XOR]
    rw[e]
    have hb1: (n == [122,101,114,111])=false:=by simpa[Zq]using hz
    simp only[XOR]at hx
    simp[F.f247B,F.f247C,Qa,hk,hx]
    refine hl _ ?_ ?_ ?_ <;> simp[Qa,encTs,hk,hx]
   ·refine⟨true,?_⟩
    have e:Zr (.mk k n s ks)=[.mk k n s ks]:=by simp[Zr,hk,hx,hz]
    rw[e]
    have hb1: (n == [122,101,114,111])=false:=by simpa[Zq]using hz
    have hb2: (n == [120,111,114])=false:=by simpa[XOR]using hx
    have hb3: (n != [120,111,114])=true:=by simpa[XOR]using hx
    simp[F.f247B,F.f247C,Qa,hk,hb1,hb2,hb3,F.f247R,F.f247K,encTs]
 ·refine⟨true,?_⟩
  have e:Zr (.mk k n s ks)=[.mk k n s ks]:=by simp[Zr,hk]
  rw[e]
  have hb: (k != 3)=true:=by simp[hk]
  simp[F.f247B,F.f247C,Qa,hk,hb,F.f247R,F.f247K,encTs]
end Go.Am
namespace Go.Am
set_option maxRecDepth 8000
@[simp] theorem Ql3 (x:Tm) (a:List Tm) (h:0 < (encTs (x:: a)).length): (encTs (x:: a))[0]=Qa x:=by simp[encTs]
def WZ (l:List Tm) (bs:List (List AV)) (r:Option (AV×List (List AV))):Prop:=∃o,r=some (.sl o 4 (encTs l),bs)
theorem QbS (bs:List (List AV)): ∀(n:Nat) (a b acc:List Tm) (o1 o2:Bool) (ρ:Nat→AV),a.length+b.length≤n→acc.length+a.length+b.length < 100000000→(∀x∈a,x.mass < big)→(∀x∈b,x.mass < big)→
   ρ 0= .sl o1 4 (encTs a)→ρ 1= .sl o2 4 (encTs b)→ρ 5= .sl true 4 (encTs acc)→
  WZ (acc ++ Xw a b) bs (R F.tb (.loop F.f183l0) ρ bs (Qk 0 (Qv F.tb F.f183r0 (Qx F.f183 bs)))):=by
 have hend: ∀(a b acc:List Tm) (o1 o2:Bool) (ρ:Nat→AV),(a=[]∨b=[])→acc.length+a.length+b.length < 100000000→ρ 0= .sl o1 4 (encTs a)→ρ 1= .sl o2 4 (encTs b)→ρ 5= .sl true 4 (encTs acc)→
   WZ (acc ++ Xw a b) bs (R F.tb F.f183r0 ρ bs (Qx F.f183 bs)):=by
  intro a b acc o1 o2 ρ hab hl h0 h1 h5
  have e:Xw a b=a ++ b:=by
   rcases hab with rfl | rfl
   ·rw[Ny];simp
   ·rw[Ov];simp
  have hb1: (acc.length+a.length)*56≤140737488355328:=Yr (by omega)
  have hb2: (acc.length+ (a.length+b.length))*56≤140737488355328:=Yr (by clear hb1;omega)
  rw[e]
  refine⟨true,?_⟩
  simp[h0,h1,h5,hb1,hb2,F.f183r0,F.f183R,F.f183K,QQ,Nat.add_assoc]
 intro n
 induction n with
 | zero=>
  intro a b acc o1 o2 ρ hn hl hma hmb h0 h1 h5
  have ha:a=[]:=List.eq_nil_of_length_eq_zero (by omega)
  subst ha
  have h2:=fun ρ=>hend [] b acc o1 o2 ρ (.inl rfl) hl
  rw[Qc F.f183l0.eq_1]
  simp[h0,h1,h5,encTs]
  refine h2 _ ?_ ?_ ?_ <;> simp[h0,h1,h5]
 | succ n IH=>
  intro a b acc o1 o2 ρ hn hl hma hmb h0 h1 h5
  match a,b with
  | [],b=>
   have h2:=fun ρ=>hend [] b acc o1 o2 ρ (.inl rfl) hl
   rw[Qc F.f183l0.eq_1]
   simp[h0,h1,h5,encTs]
   refine h2 _ ?_ ?_ ?_ <;> simp[h0,h1,h5]
  | x:: a,[]=>
   have h2:=fun ρ=>hend (x:: a) [] acc o1 o2 ρ (.inr rfl) hl
   have hp: (0:Int) < (a.length:Int)+1:=by omega
   rw[Qc F.f183l0.eq_1]
   simp[h0,h1,h5,hp]
   refine h2 _ ?_ ?_ ?_ <;> simp[h0,h1,h5]
  | x:: a,y:: b=>
   simp only[List.length_cons]at hn hl
   have hp: (0:Int) < (a.length:Int)+1:=by omega
   have hp2: (0:Int) < (b.length:Int)+1:=by omega
   have hp3: (1:Int)≤(a.length:Int)+1:=by omega
   have hp4: (1:Int)≤(b.length:Int)+1:=by omega
   have hc:=call_Compare x y bs (hma x (by simp)) (hmb y (by simp))
   have hb: (acc.length+1)*56≤140737488355328:=Yr (by omega)
   have et: (encTs (x:: a)).take ((encTs (x:: a)).length)=encTs (x:: a):=List.take_length
   have i1:=fun ρ=>IH a (y:: b) (acc ++ [x]) false o2 ρ (by simp;omega) (by simp;omega) (fun z hz=>hma z (by simp[hz])) hmb
   have i2:=fun ρ=>IH (x:: a) b (acc ++ [y]) o1 false ρ (by simp;omega) (by simp;omega) hma (fun z hz=>hmb z (by simp[hz]))
   have i3:=fun ρ=>IH a b acc false false ρ (by omega) (by omega) (fun z hz=>hma z (by simp[hz])) (fun z hz=>hmb z (by simp[hz]))
   rw[Qc F.f183l0.eq_1,Ou]
   clear hn
   by_cases h1':Qm x y < 0
   ·simp only[h1',if_true]
    simp only[List.append_assoc,List.cons_append,List.nil_append]at i1
    simp[h0,h1,h5,hp,hp2,hp3,hc,h1',hb,Zb,QQ,Tg,Th]
    refine i1 _ ?_ ?_ ?_ <;> simp[h1]
   ·by_cases h2':0 < Qm x y
    ·simp only[h1',h2',if_true,if_false]
     simp only[List.append_assoc,List.cons_append,List.nil_append]at i2
     simp[h0,h1,h5,hp,hp2,hp4,hc,h1',h2',hb,Zb,QQ,Tg,Th]
     refine i2 _ ?_ ?_ ?_ <;> simp[h0]
    ·simp only[h1',h2',if_false]
     simp[h0,h1,h5,hp,hp2,hp3,hp4,hc,h1',h2',Tg,Th]
     refine i3 _ ?_ ?_ ?_ <;> simp[h5]
theorem Jf (a b:List Tm) (o1 o2:Bool) (bs:List (List AV)) (hl:a.length+b.length < 100000000) (hma: ∀x∈a,x.mass < big) (hmb: ∀x∈b,x.mass < big):
  WZ (Xw a b) bs (call F.tb 183 [.sl o1 4 (encTs a),.sl o2 4 (encTs b)] bs):=by
 have h:=fun ρ=>QbS bs _ a b [] false false ρ (Nat.le_refl _) (by simp;omega) hma hmb
 simp only[List.nil_append]at h
 rw[Qb F.tb_183 _ _ rfl]
 simp[F.f183B,F.f183C]
 refine h _ ?_ ?_ ?_ <;> simp[encTs]
theorem Qeh (t:Tm) (bs:List (List AV)) (hm:t.mass < 30000000) (ih: ∀x∈t.kids,∀bs,WZ (Zr x) bs (call F.tb 182 [.agg (Qa x)] bs)):
  ∀(post pre acc:List Tm) (o:Bool) (ρ:Nat→AV),t.kids=pre ++ post→acc.length+nodesL post < 30000000→Asc acc→(∀x∈acc,x.mass < big)→ρ 3= .sl o 4 (encTs acc)→ρ 31= .sl false 4 (encTs t.kids)→ρ 32= .int .i64 t.kids.length→ρ 33= .int .i64 pre.length→
  R F.tb (.loop F.f182l0) ρ bs (Qk 1 (Qv F.tb F.f182r0 (Qk 0 (Qv F.tb F.f182r1 (Qx F.f182 bs)))))=some (.sl false 4 (encTs (sumL acc post)),bs):=by
 have hmk:=Qo t
 intro post
 induction post with
 | nil=>
  intro pre acc o ρ hk ha has hma h3 h31 h32 h33
  simp only[List.append_nil]at hk
  rw[← hk]at h33
  rw[Qc F.f182l0.eq_1]
  simp[h3,h31,h32,h33,F.f182r0,F.f182R,F.f182K,sumL]
 | cons x post IH=>
  intro pre acc o ρ hk ha has hma h3 h31 h32 h33
  have hg:=Qp hk
  have hll:t.kids.length=pre.length+ (post.length+1):=by rw[hk];simp
  have hw1:IntKind.i64.wrap ((pre.length:Int)+1)=(pre.length:Int)+1:=Ql (by omega) (by omega)
  have hlt: (pre.length:Int) < (t.kids.length:Int):=by omega
  have hxk:x∈t.kids:=by rw[hk];simp
  have hxm:=Qz hxk
  have hxn:=Zj x
  have hsl:=Sx x
  simp only[nodesL]at ha
  obtain⟨o1,hc1⟩:=ih x hxk bs
  have hsm: ∀y∈Zr x,y.mass < big:=fun y hy=>by have:=XA x y (Sz x y hy);unfold big;omega
  obtain⟨o2,hc2⟩:=Jf acc (Zr x) false false bs (by omega) hma hsm
  rw[G9 has (VI x)]at hc2
  have hpl:=Vd (Zr x) acc
  have hpm: ∀y∈Yb acc (Zr x),y.mass < big:=fun y hy=>by
   rcases Va (VI x) hy with h | h
   ·exact hma y h
   ·exact hsm y h
  have h2:=fun ρ=>IH (pre ++ [x]) (Yb acc (Zr x)) o2 ρ (by rw[hk];simp) (by omega) (UY _ _ has) hpm
  rw[Qc F.f182l0.eq_1]
  simp[h3,h31,h32,h33,hg,hlt,hw1,QE,hc1,hc2,sumL]
  refine h2 _ ?_ ?_ ?_ ?_ <;> simp[h31,h32]
theorem JZ: ∀(t:Tm) (bs:List (List AV)),t.mass < 30000000→WZ (Zr t) bs (call F.tb 182 [.agg (Qa t)] bs):=by
 refine Zh ?_
 intro k n s ks ih bs hm
 have hmk:=Qo (.mk k n s ks)
 have hnm:=nodesL_le_mass ks
 simp only[QJ,Q3]at hmk
 have hl:=fun ρ=>Qeh (.mk k n s ks) bs hm (fun x hx bs=>ih x hx bs (by have:=Qz hx;simp at this;omega)) ks [] [] true ρ rfl (by simp;omega) Asc.nil (by simp)
 simp only[QJ]at hl
 rw[Qb F.tb_182 _ _ rfl]
 by_cases hk:k=3
 ·by_cases hz:n=Zq
  ·cases ks with
   | nil=>
    refine⟨true,?_⟩
    simp[F.f182B,F.f182C,Qa,encTs,Zr,hk,hz,Zq,F.f182R,F.f182K]
   | cons x xs=>
    refine⟨true,?_⟩
    simp only[Zq]at hz
    have: ¬((xs.length:Int)+1=0):=by omega
    simp[F.f182B,F.f182C,Qa,Zr,hk,hz,Zq,XOR,this,F.f182R,F.f182K,encTs,F.f182r1]
  ·by_cases hx:n=XOR
   ·refine⟨false,?_⟩
    have e:Zr (.mk k n s ks)=sumL [] ks:=by simp[Zr,hk,hx,Zq,XOR]
    rw[e]
    simp only[XOR]at hx
    simp[F.f182B,F.f182C,Qa,hk,hx]
    refine hl _ ?_ ?_ ?_ ?_ <;> simp[encTs]
   ·refine⟨true,?_⟩
    have e:Zr (.mk k n s ks)=[.mk k n s ks]:=by simp[Zr,hk,hx,hz]
    rw[e]
    have hb1: (n == [122,101,114,111])=false:=by simpa[Zq]using hz
    have hb2: (n == [120,111,114])=false:=by simpa[XOR]using hx
    simp[F.f182B,F.f182C,Qa,hk,hb1,hb2,F.f182R,F.f182K,encTs,F.f182r1]
 ·refine⟨true,?_⟩
  have e:Zr (.mk k n s ks)=[.mk k n s ks]:=by simp[Zr,hk]
  rw[e]
  simp[F.f182B,F.f182C,Qa,hk,F.f182R,F.f182K,encTs,F.f182r1]
theorem JV (t u:Tm) (o:Bool) (bs:List (List AV)) (ht:t.mass < big) (hu:u.mass < big):call F.tb 185 [.agg (Qa t),.sl o 1 [],.agg (Qa u)] bs=some (.tup [.agg (Qa u),.int .i64 0],bs):=by
 have h1:=fun bs=>Tc t bs ht
 have h2:=fun bs=>Tc u bs hu
 rw[Qb F.tb_185 _ _ rfl]
 have e1: ∀x y:List AV,(bs ++ [x]).set bs.length y=bs ++ [y]:=fun x y=>by rw[List.set_append];simp
 simp[F.f185B,F.f185C,h1,QE,e1,put]
 rw[Qc F.f185l0.eq_1]
 simp[F.f185r0,h2,QE,e1,put,F.f185R,F.f185K]
end Go.Am
namespace Go.Am
set_option maxRecDepth 8000
def UN (ls:List (List Tm)):List (List AV):=ls.map fun l=>[AV.sl false 4 (encTs l)]
theorem Jo {ls pre post:List (List Tm)} {x:List Tm} (h:ls=pre ++ x:: post): (UN ls)[pre.length]? =some [AV.sl false 4 (encTs x)]:=by subst h;simp[UN]
theorem Jp (ls:List (List Tm)): (UN ls).length=ls.length:=by simp[UN]
theorem QaY (n:Nat) (bs:List (List AV)) (hn:n < 100000000):call F.tb 181 [.gs 0 0 0 0,.int .i64 n] bs=some (.sl true 4 [],bs):=by
 rw[XH F.tb_181]
 simp only[N2]
 rw[if_pos]
 refine⟨by omega,?_,by omega⟩
 simp
 exact Yr (by omega)
theorem BN (ls:List (List Tm)) (bs:List (List AV)) (hl:ls.length < 1000) (hf:ls.flatten.length < 100000000):
  ∀(post pre:List (List Tm)) (ρ:Nat→AV),ls=pre ++ post→ρ 6= .sl true 4 (encTs pre.flatten)→ρ 25= .sl false 1 (UN ls)→ρ 26= .int .i64 ls.length→ρ 27= .int .i64 pre.length→
  R F.tb (.loop F.f180l1) ρ bs (Qk 2 (Qv F.tb F.f180r0 (Qx F.f180 bs)))=some (.sl false 4 (encTs ls.flatten),bs):=by
 intro post
 induction post with
 | nil=>
  intro pre ρ hk h6 h25 h26 h27
  simp only[List.append_nil]at hk
  rw[← hk]at h27 h6
  rw[Qc F.f180l1.eq_1]
  simp[h6,h25,h26,h27,F.f180r0,F.f180R,F.f180K]
 | cons x post IH=>
  intro pre ρ hk h6 h25 h26 h27
  have hg:=Jo hk
  have hll:ls.length=pre.length+ (post.length+1):=by rw[hk];simp
  have hw1:IntKind.i64.wrap ((pre.length:Int)+1)=(pre.length:Int)+1:=Ql (by omega) (by omega)
  have hlt: (pre.length:Int) < (ls.length:Int):=by omega
  have hfl:ls.flatten.length=pre.flatten.length+ (x.length+post.flatten.length):=by rw[hk];simp
  have hb: (pre.flatten.length+x.length)*56≤140737488355328:=Yr (by omega)
  have h2:=IH (pre ++ [x])
  have e: (pre ++ [x]).flatten=pre.flatten ++ x:=by simp
  rw[e]at h2
  generalize pre.flatten=pf at *
  rw[Qc F.f180l1.eq_1]
  simp[h6,h25,h26,h27,hg,hlt,hw1,hb,QQ]
  rw[h2] <;> simp[h25,h26,hk]
theorem BM (ls:List (List Tm)) (bs:List (List AV)) (hl:ls.length < 1000) (hf:ls.flatten.length < 100000000):
  ∀(post pre:List (List Tm)) (ρ:Nat→AV),ls=pre ++ post→ρ 0= .sl false 1 (UN ls)→ρ 3= .int .i64 pre.flatten.length→ρ 9= .sl false 1 (UN ls)→ρ 10= .int .i64 ls.length→ρ 11= .int .i64 pre.length→
  R F.tb (.loop F.f180l0) ρ bs (Qk 0 (Qv F.tb F.f180r1 (Qx F.f180 bs)))=some (.sl false 4 (encTs ls.flatten),bs):=by
 intro post
 induction post with
 | nil=>
  intro pre ρ hk h0 h3 h9 h10 h11
  simp only[List.append_nil]at hk
  rw[← hk]at h11 h3
  have hc:=QaY ls.flatten.length bs hf
  have h1:=fun ρ=>BN ls bs hl hf ls [] ρ rfl
  generalize ls.flatten=lf at *
  rw[Qc F.f180l0.eq_1]
  simp[h0,h3,h9,h10,h11,F.f180r1,hc]
  refine h1 _ ?_ ?_ ?_ ?_ <;> simp[h0,encTs,Jp]
 | cons x post IH=>
  intro pre ρ hk h0 h3 h9 h10 h11
  have hg:=Jo hk
  have hll:ls.length=pre.length+ (post.length+1):=by rw[hk];simp
  have hw1:IntKind.i64.wrap ((pre.length:Int)+1)=(pre.length:Int)+1:=Ql (by omega) (by omega)
  have hlt: (pre.length:Int) < (ls.length:Int):=by omega
  have hfl:ls.flatten.length=pre.flatten.length+ (x.length+post.flatten.length):=by rw[hk];simp
  have hw2:IntKind.i64.wrap ((pre.flatten.length:Int)+ (x.length:Int))=(pre.flatten.length:Int)+ (x.length:Int):=Ql (by omega) (by omega)
  have hnn: ¬((pre.flatten.length:Int)+ (x.length:Int) < 0):=by omega
  have h2:=IH (pre ++ [x])
  have e: ((pre ++ [x]).flatten.length:Int)=(pre.flatten.length:Int)+ (x.length:Int):=by simp
  rw[e]at h2
  generalize (pre.flatten.length:Int)=pf at *
  rw[Qc F.f180l0.eq_1]
  simp[h0,h3,h9,h10,h11,hg,hlt,hw1,hw2,hnn]
  rw[h2] <;> simp[h0,h9,h10,hk]
theorem Me (ls:List (List Tm)) (o:Bool) (bs:List (List AV)) (hl:ls.length < 1000) (hf:ls.flatten.length < 100000000):
  call F.tb 180 [.sl o 1 (UN ls)] bs=some (.sl false 4 (encTs ls.flatten),bs):=by
 have h:=fun ρ=>BM ls bs hl hf ls [] ρ rfl
 rw[Qb F.tb_180 _ _ rfl]
 simp[F.f180B,F.f180C]
 refine h _ ?_ ?_ ?_ ?_ ?_ <;> simp[Jp]
def WW:List Tm→Int
 | []=>0
 | t:: ts=>if QF t≠0 then QF t else WW ts
theorem Bn (l:List Tm) (bs:List (List AV)) (hl:l.length < 100000000) (hm: ∀x∈l,x.mass < big): ∀(post pre:List Tm) (ρ:Nat→AV),l=pre ++ post→ρ 14= .sl false 4 (encTs l)→ρ 15= .int .i64 l.length→ρ 16= .int .i64 pre.length→
  R F.tb (.loop F.f179l0) ρ bs (Qk 0 (Qv F.tb F.f179r0 (Qx F.f179 bs)))=some (.int .i64 (WW post),bs):=by
 intro post
 induction post with
 | nil=>
  intro pre ρ hk h14 h15 h16
  simp only[List.append_nil]at hk
  rw[← hk]at h16
  rw[Qc F.f179l0.eq_1]
  simp[h14,h15,h16,F.f179r0,F.f179R,F.f179K,WW]
 | cons x post IH=>
  intro pre ρ hk h14 h15 h16
  have hg:=Qp hk
  have hll:l.length=pre.length+ (post.length+1):=by rw[hk];simp
  have hw1:IntKind.i64.wrap ((pre.length:Int)+1)=(pre.length:Int)+1:=Ql (by omega) (by omega)
  have hlt: (pre.length:Int) < (l.length:Int):=by omega
  have hc:=Xp x bs (hm x (by rw[hk];simp))
  rw[Qc F.f179l0.eq_1]
  by_cases hv:QF x=0
  ·simp[h14,h15,h16,hg,hlt,hw1,QE,hc,hv,WW]
   rw[IH (pre ++ [x])] <;> simp[h14,h15,hk]
  ·simp[h14,h15,h16,hg,hlt,hw1,QE,hc,hv,WW,F.f179R,F.f179K]
def Wb (l:List Tm):Int:=if 200 < l.length then 3 else WW l
theorem CJ (l:List Tm) (o o2:Bool) (bs:List (List AV)) (hl:l.length < 100000000) (hm: ∀x∈l,x.mass < big):call F.tb 179 [.sl o 4 (encTs l),.sl o2 4 []] bs=some (.int .i64 (Wb l),bs):=by
 have h:=fun ρ=>Bn l bs hl hm l [] ρ rfl
 have hc:=Me [l,[]] false bs (by simp) (by simpa using hl)
 simp only[UN,List.map_cons,List.map_nil,List.flatten_cons,List.flatten_nil,List.append_nil,encTs]at hc
 rw[Qb F.tb_179 _ _ rfl]
 by_cases h2:200 < l.length
 ·have h2': (200:Int) < (l.length:Int):=by omega
  simp[F.f179B,F.f179C,h2',h2,Wb,F.f179R,F.f179K]
 ·have h2': ¬(200:Int) < (l.length:Int):=by omega
  simp[F.f179B,F.f179C,h2',h2,Wb,hc]
  refine h _ ?_ ?_ ?_ <;> simp
end Go.Am
namespace Go.Am
set_option maxRecDepth 8000
theorem QhF {c:List AV} {n p:Nat} {pre:List Tm} {x:Tm} {v:AV} (hc:c.length=n*4) (hp:p=pre.length) (hlt:p < n) (ht: (c.map AV.strip).take (p*4)=Qw pre) (hv:v.strip= .sl false 4 (encTs x.kids)):
  ((c.take (p*4)++ (Qa x ++ c.drop (p*4+4))).set (p*4+3) v).length=n*4∧
  ((((c.take (p*4)++ (Qa x ++ c.drop (p*4+4))).set (p*4+3) v).map AV.strip).take ((p+1)*4))=Qw (pre ++ [x]):=by
 have h1: (c.take (p*4)).length=p*4:=by rw[List.length_take];omega
 have h2:=QO x
 refine⟨by simp[h1,h2,hc];omega,?_⟩
 have e: (c.take (p*4)++ (Qa x ++ c.drop (p*4+4))).set (p*4+3) v=c.take (p*4)++ ([.int .i64 x.kind,.str x.name,.int .i64 x.sort,v]++ c.drop (p*4+4)):=by
  rw[List.set_append,if_neg (by omega),h1,show p*4+3 - p*4=3 by omega,Qj]
  simp
 rw[e,List.map_append,List.map_append,List.map_take,ht]
 have h3: [AV.int .i64 x.kind,.str x.name,.int .i64 x.sort,v].map AV.strip=Qa x:=by rw[Qj];simp[hv]
 have hr: (Qw pre).length=p*4:=by rw[Z2 QO,hp]
 rw[h3,← List.append_assoc,List.take_append_of_le_length (by simp[hr,h2];omega),List.take_of_length_le (by simp[hr,h2];omega)]
 simp[Qw,XZ,Sa]
theorem QdK {c:List AV} {n p:Nat} {pre:List Tm} {x:Tm} (hc:c.length=n*4) (hp:p=pre.length) (hlt:p < n) (ht: (c.map AV.strip).take ((p+1)*4)=Qw (pre ++ [x])) (hx:x.kids=[]):
  (c.take (p*4+3)++ ([AV.sl false 4 []]++ c.drop (p*4+3+1))).length=n*4∧
  ((c.take (p*4+3)++ ([AV.sl false 4 []]++ c.drop (p*4+3+1))).map AV.strip).take ((p+1)*4)=Qw (pre ++ [x]):=by
 have h1: (c.take (p*4+3)).length=p*4+3:=by rw[List.length_take];omega
 refine⟨by simp[h1,hc];omega,?_⟩
 have hr:Qw (pre ++ [x])=Qw pre ++ [.int .i64 x.kind,.str x.name,.int .i64 x.sort]++ [.sl false 4 []]:=by
  simp[Qw,XZ,Sa,Qj,hx,encTs]
 have hl0: (Qw pre).length=p*4:=by rw[Z2 QO,hp]
 have e1: (c.take (p*4+3)).map AV.strip=Qw pre ++ [.int .i64 x.kind,.str x.name,.int .i64 x.sort]:=by
  have h2: ((c.map AV.strip).take ((p+1)*4)).take (p*4+3)=(c.map AV.strip).take (p*4+3):=by rw[List.take_take];congr 1;omega
  rw[List.map_take,← h2,ht,hr,List.take_append_of_le_length (by simp[hl0]),List.take_of_length_le (by simp[hl0])]
 rw[List.map_append,List.map_append,e1,← List.append_assoc,List.take_append_of_le_length (by simp[hl0];omega),List.take_of_length_le (by simp[hl0];omega),hr]
 simp
theorem QdJ (l:List Tm) (B:List (List AV)) (hl:l.length < 100000000) (hne:l≠[]) (hm: ∀x∈l,x.mass < big) (ih: ∀x∈l,∀bs,WZ x.kids bs (call F.tb 184 [.sl false 4 (encTs x.kids)] bs)):
  ∀(post pre:List Tm) (c:List AV) (ρ:Nat→AV),l=pre ++ post→c.length=l.length*4→(c.map AV.strip).take (pre.length*4)=Qw pre→ρ 3= .gs B.length 0 4 l.length→ρ 9= .sl false 4 (encTs l)→ρ 10= .int .i64 l.length→ρ 11= .int .i64 pre.length→
  WZ l B (R F.tb (.loop F.f184l0) ρ (B ++ [c]) (Qk 0 (Qv F.tb F.f184r0 (Qx F.f184 B)))):=by
 have es: ∀x y:List AV,(B ++ [x]).set B.length y=B ++ [y]:=fun x y=>by rw[List.set_append];simp
 have eg: ∀x:List AV,(B ++ [x])[B.length]? =some x:=fun x=>List.getElem?_concat_length
 intro post
 induction post with
 | nil=>
  intro pre c ρ hk hc ht h3 h9 h10 h11
  simp only[List.append_nil]at hk
  rw[← hk]at h11 ht
  have hz: ¬l.length=0:=fun e=>hne (List.eq_nil_of_length_eq_zero e)
  have hch:ZU c 0 4 l.length=encTs l:=by
   have e1:c.map AV.strip=Qw l:=by rw[← ht,List.take_of_length_le (by simp[hc])]
   have e2:ZU c 0 4 l.length=ZU (c.map AV.strip) 0 4 l.length:=by
    unfold ZU
    apply List.map_congr_left
    intro k _
    rw[← List.map_drop,← List.map_take,List.map_map]
    apply List.map_congr_left
    intro v _
    exact(Mr v).symm
   rw[e2,e1]
   have:=Xx (f:=Qa) (k:=4) QO Zs l []
   rw[UF,List.append_nil]at this
   exact this
  have hg:gpfreeE (encTs l)=true:=encTs_gp l
  have hle:l.length*4≤c.length:=by omega
  refine⟨true,?_⟩
  rw[Qc F.f184l0.eq_1]
  simp[h3,h9,h10,h11,F.f184r0,Z4,hz,hne,hle,es,hch,F.f184R,F.f184K]
 | cons x post IH=>
  intro pre c ρ hk hc ht h3 h9 h10 h11
  have hg:=Qp hk
  have hll:l.length=pre.length+ (post.length+1):=by rw[hk];simp
  have hw1:IntKind.i64.wrap ((pre.length:Int)+1)=(pre.length:Int)+1:=Ql (by omega) (by omega)
  have hlt: (pre.length:Int) < (l.length:Int):=by omega
  have hlt':pre.length < l.length:=by omega
  have hx:=hm x (by rw[hk];simp)
  have hc1:=fun bs=>JV x x true bs hx hx
  obtain⟨o,hc2⟩:=ih x (by rw[hk];simp) (B ++ [c.take (pre.length*4)++ (Qa x ++ c.drop (pre.length*4+4))])
  have hle:pre.length*4+4≤c.length:=by omega
  obtain⟨p1,p2⟩:=QhF (v:= .sl o 4 (encTs x.kids)) hc rfl hlt' ht rfl
  have hle2:pre.length*4+3 < (c.take (pre.length*4)++ (Qa x ++ c.drop (pre.length*4+4))).length:=by simp[QO];omega
  generalize hcc:c.take (pre.length*4)++ (Qa x ++ c.drop (pre.length*4+4))=cc at *
  have hgl: ∀h:pre.length < (encTs l).length,(encTs l)[pre.length]=Qa x:=fun h=>by
   have:=List.getElem?_eq_getElem h
   rw[Ng,hg]at this;injection this with this;exact this.symm
  rw[Qc F.f184l0.eq_1]
  by_cases hkz:x.kids=[]
  ·obtain⟨p3,p4⟩:=QdK p1 rfl hlt' p2 hkz
   have hle3:pre.length*4+3+1≤(cc.set (pre.length*4+3) (.sl o 4 (encTs x.kids))).length:=by rw[p1];omega
   have i1:=fun ρ=>IH (pre ++ [x]) _ ρ (by rw[hk];simp) p3 (by simpa using p4)
   rw[hkz]at hc2 hle3 i1
   have hle3':pre.length*4+3+1≤cc.length:=by simpa using hle3
   simp only[encTs,List.cons_append,List.nil_append]at hc2 hle3 i1
   simp[h3,h9,h10,h11,hg,hgl,hlt,hlt',hw1,QE,hc1,eg,es,hle,hcc,hc2,hle2,hkz,encTs,hle3',QO]
   refine i1 _ ?_ ?_ ?_ ?_ <;> simp[h3,h9,h10]
  ·have hkl: ¬(x.kids.length:Int)=0:=by
    intro e
    exact hkz (List.eq_nil_of_length_eq_zero (by omega))
   have i1:=fun ρ=>IH (pre ++ [x]) _ ρ (by rw[hk];simp) p1 (by simpa using p2)
   simp[h3,h9,h10,h11,hg,hgl,hlt,hlt',hw1,QE,hc1,eg,es,hle,hcc,hc2,hle2,hkz,hkl,QO]
   refine i1 _ ?_ ?_ ?_ ?_ <;> simp[h3,h9,h10]
theorem QbQ (l:List Tm) (o:Bool) (bs:List (List AV)) (hl:l.length < 100000000) (hm: ∀x∈l,x.mass < big) (ih: ∀x∈l,∀bs,WZ x.kids bs (call F.tb 184 [.sl false 4 (encTs x.kids)] bs)):
  WZ l bs (call F.tb 184 [.sl o 4 (encTs l)] bs):=by
 have hb:l.length*56≤140737488355328:=Yr (by omega)
 have hb2: (l.length:Int)≤4611686018427387904:=by omega
 rw[Qb F.tb_184 _ _ rfl]
 by_cases hne:l=[]
 ·subst hne
  refine⟨false,?_⟩
  simp[F.f184B,F.f184C,encTs]
  rw[Qc F.f184l0.eq_1]
  simp[F.f184r0,Z4,F.f184R,F.f184K]
 ·have h:=fun c hc ρ=>QdJ l bs hl hne hm ih l [] c ρ rfl hc (by simp[ZL])
  have hlen: (List.replicate l.length [AV.int .i64 0,.str [],.int .i64 0,.sl true 4 []]).flatten.length=l.length*4:=by simp
  have h2:=h _ hlen
  simp[F.f184B,F.f184C,hb,hb2]
  refine h2 _ ?_ ?_ ?_ ?_ <;> simp
theorem QdI: ∀(t:Tm) (bs:List (List AV)),t.mass < 100000000→WZ t.kids bs (call F.tb 184 [.sl false 4 (encTs t.kids)] bs):=by
 refine Zh ?_
 intro k n s ks ih bs hm
 have hmk:=Qo (.mk k n s ks)
 simp only[QJ,Q3]at hmk ⊢
 exact QbQ ks false bs (by omega) (fun x hx=>by have:=Qz hx;unfold big;omega) fun x hx bs=>ih x hx bs (by have:=Qz hx;omega)
theorem QcU (l:List Tm) (o:Bool) (bs:List (List AV)) (hl:l.length < 100000000) (hm: ∀x∈l,x.mass < 100000000):WZ l bs (call F.tb 184 [.sl o 4 (encTs l)] bs):=
 QbQ l o bs hl (fun x hx=>by have:=hm x hx;unfold big;omega) fun x hx bs=>QdI x bs (hm x hx)
end Go.Am
