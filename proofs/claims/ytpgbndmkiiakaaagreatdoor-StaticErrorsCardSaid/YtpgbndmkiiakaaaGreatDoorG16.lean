/-
  Rc6, Rc7, Rc8, Rc9, Rc10, Rc11.
-/
import Derived.Test.YtpgbndmkiiakaaaGreatDoorG15
set_option linter.unusedVariables false
set_option linter.unusedSimpArgs false
namespace Go.Am
set_option maxRecDepth 8000
mutual
def QY:Tm→List Tm
 | .mk k n s ks=> .mk k n s ks:: allL ks
def allL:List Tm→List Tm
 | []=>[]
 | t:: ts=>QY t ++ allL ts
end
theorem C3 (t:Tm):QY t=t:: allL t.kids:=by cases t;simp[QY]
theorem Nc (a b:List Tm):allL (a ++ b)=allL a ++ allL b:=by
 induction a with
 | nil=>simp[allL]
 | cons t ts ih=>simp[allL,ih]
mutual
theorem Wd: ∀t:Tm,(QY t).length=t.nodes
 | .mk k n s ks=>by simp only[QY,List.length_cons,Tm.nodes,allL_len ks];omega
theorem allL_len: ∀ts:List Tm,(allL ts).length=nodesL ts
 | []=>by simp[allL,nodesL]
 | t:: ts=>by simp only[allL,List.length_append,nodesL,Wd t,allL_len ts]
end
mutual
theorem X4: ∀(t x:Tm),x∈QY t→x.mass≤t.mass
 | .mk k n s ks,x,h=>by
  simp only[QY,List.mem_cons]at h;rcases h with rfl | h
  ·exact Nat.le_refl _
  ·have:=allL_mass ks x h;simp only[Tm.mass];omega
theorem allL_mass: ∀(ts:List Tm) (x:Tm),x∈allL ts→x.mass≤massL ts
 | [],x,h=>by simp[allL]at h
 | t:: ts,x,h=>by
  simp only[allL,List.mem_append]at h;simp only[massL];rcases h with h | h
  ·have:=X4 t x h;omega
  ·have:=allL_mass ts x h;omega
end
def Yl (k:Int) (x:Tm):Bool:=decide (x.kind=k)
def WOk (B0:List (List AV)) (k:Int) (acc:List Tm) (r:Option (AV×List (List AV))):Prop:=∃bs',r=some (.tup [],bs')∧Wst B0 k acc bs'
theorem QeO (B0:List (List AV)) (k:Int) (t:Tm) (B:List (List AV)) (hm:t.mass < 100000000)
  (ih: ∀x∈t.kids,∀acc bs,Wst B0 k acc bs→acc.length+x.nodes < 100000000→WOk B0 k (acc ++ (QY x).filter (Yl k)) (call F.tb 168 [.agg (Qa x),.fn 167 [.gp B0.length 0,.gp (B0.length+1) 0]] bs)):
  ∀(post pre acc:List Tm) (bs:List (List AV)) (ρ:Nat→AV),t.kids=pre ++ post→Wst B0 k acc bs→acc.length+nodesL post < 100000000→ρ 1= .fn 167 [.gp B0.length 0,.gp (B0.length+1) 0]→ρ 10= .sl false 4 (encTs t.kids)→ρ 11= .int .i64 t.kids.length→ρ 12= .int .i64 pre.length→
  WOk B0 k (acc ++ (allL post).filter (Yl k)) (R F.tb (.loop F.f168l0) ρ bs (Ql 0 (Qt F.f168 B))):=by
 have hmk:=Qo t;intro post
 induction post with
 | nil=>
  intro pre acc bs ρ hk hw ha h1 h10 h11 h12;simp only[List.append_nil]at hk;rw[← hk]at h12;rw[Qc F.f168l0.eq_1];refine⟨bs,?_,by simpa[allL]using hw⟩;simp[h1,h10,h11,h12]
 | cons x post IH=>
  intro pre acc bs ρ hk hw ha h1 h10 h11 h12;have hg:=Qp hk;have hl:=Qx hk;have hw1:=wr1 pre.length (by omega);have hlt:=Qy hk;simp only[nodesL]at ha;obtain⟨bs',hc,hw'⟩:=ih x (by rw[hk];simp) acc bs hw (by omega);have hfl: ((QY x).filter (Yl k)).length≤x.nodes:=by rw[← Wd];exact List.length_filter_le _ _
  have h2:=fun ρ=>IH (pre ++ [x]) _ bs' ρ (by rw[hk];simp) hw' (by rw[List.length_append];omega);rw[List.append_assoc,← List.filter_append,show QY x ++ allL post=allL (x:: post) by simp[allL]]at h2;rw[Qc F.f168l0.eq_1];simp[h1,h10,h11,h12,hg,hlt,hw1,hc];refine h2 _ ?_ ?_ ?_ ?_ <;> simp[h1,h10,h11]
theorem Qda (B0:List (List AV)) (k:Int): ∀(t:Tm) (acc:List Tm) (bs:List (List AV)),t.mass < 100000000→Wst B0 k acc bs→acc.length+t.nodes < 100000000→
  WOk B0 k (acc ++ (QY t).filter (Yl k)) (call F.tb 168 [.agg (Qa t),.fn 167 [.gp B0.length 0,.gp (B0.length+1) 0]] bs):=by
 refine Zp ?_;intro kk n s ks ih acc bs hm hw ha;have hmk:=Qo (.mk kk n s ks);have hnk:=Z0 (.mk kk n s ks);simp only[QN,Q5]at hmk hnk;obtain⟨bs1,hc,hw1⟩:=A4 B0 k acc bs (.mk kk n s ks) hw (by omega);have hl:=fun ρ=>QeO B0 k (.mk kk n s ks) bs hm (fun x hx acc bs hw ha=>ih x hx acc bs (by have:=QD hx;simp at this;omega) hw ha) ks [] _ bs1 ρ rfl hw1 (by
  rw[List.length_append];split <;> simp <;> omega)
 have he:acc ++ (QY (.mk kk n s ks)).filter (Yl k)=(acc ++ if(Tm.mk kk n s ks).kind=k then [.mk kk n s ks]else [])++ (allL ks).filter (Yl k):=by
  simp only[QY,List.filter_cons,Yl,YJ];by_cases h:kk=k <;> simp[h]
 rw[he,Qb F.tb_168 _ _ rfl];simp[F.f168C,hc];simp only[YJ,QN,List.append_assoc]at hl;refine hl _ ?_ ?_ ?_ ?_ <;> simp[Qg]
theorem LQ (t:Tm) (k:Int) (B:List (List AV)) (hm:t.mass < 100000000):
  call F.tb 166 [.agg (Qa t),.int .i64 k] B=some (.sl true 4 (encTs (YM ((QY t).filter (Yl k)))),B):=by
 have hn:=Zm t;have hw0:Wst B k [] (B ++ [[.int .i64 k],[.gs 0 0 0 0]]):=by
  refine⟨by simp,by simp,by simp,.inl ⟨rfl,?_⟩⟩;rw[List.getElem?_append_right (by omega)];simp
 obtain⟨bs',hc,h1,h2,h3,h4⟩:=Qda B k t [] _ hm hw0 (by simp;omega);rw[Qb F.tb_166 _ _ rfl];have e1: (B ++ [[AV.int .i64 k]])++ [[AV.gs 0 0 0 0]]=B ++ [[.int .i64 k],[.gs 0 0 0 0]]:=by simp
 have e2: (B ++ [[AV.int .i64 k]]).length=B.length+1:=by simp
 generalize hF: (QY t).filter (Yl k)=A at *;have hlen:A.length < 100000000:=by rw[← hF];have:=List.length_filter_le (Yl k) (QY t);rw[Wd]at this;omega
 have hmm: ∀x∈A,x.mass < big:=fun x hx=>by
  rw[← hF]at hx;have:=X4 t x (List.mem_filter.1 hx).1;unfold big;omega
 have hgp:gpfreeE (encTs (YM A))=true:=encTs_gp _;simp only[List.nil_append]at h4;rcases h4 with⟨h5,h6⟩ | ⟨h5,g,h6,h7,h8⟩
 ·have ho:=HS bs';subst h5;simp[F.f166,F.f166C,QO,e1,e2,hc,h6,ho,h2,YM,Vm,encTs]
 ·have ho:=Ee A bs' g h8 h5 hlen hmm;have hgl:=VG h8;have ht: (bs'.set g []).take B.length=B:=by rw[List.take_set_of_le (by omega)];exact h2
  simp[F.f166,F.f166C,QO,e1,e2,hc,h7,ho,ht,hgp]
def Uj (t:Tm):List Tm:=YM ((QY t).filter (Yl 1))
def YB (t:Tm):List Tm:=YM ((QY t).filter (Yl 2))
theorem Qc7 (t:Tm) (B:List (List AV)) (hm:t.mass < 100000000):call F.tb 165 [.agg (Qa t)] B=some (.sl true 4 (encTs (Uj t)),B):=by
 rw[Qb F.tb_165 _ _ rfl];have h:=LQ t 1 B hm;have hgp:gpfreeE (encTs (YM ((QY t).filter (Yl 1))))=true:=encTs_gp _;simp[F.f165,F.f165C,QO,h,Uj]
theorem KW (t:Tm) (B:List (List AV)) (hm:t.mass < 100000000):call F.tb 210 [.agg (Qa t)] B=some (.sl true 4 (encTs (YB t)),B):=by
 rw[Qb F.tb_210 _ _ rfl];have h:=LQ t 2 B hm;simp[F.f210,F.f210C,QO,h,YB]
theorem Yi {n:Nat} (h:n≤200000000):n*56≤140737488355328:=by omega
theorem QeT (t:Tm) (bs:List (List AV)) (hm:t.mass < 100000000) (ih: ∀x∈t.kids,∀bs,call F.tb 237 [.agg (Qa x)] bs=some (.sl false 4 (encTs (QY x)),bs)):
  ∀(post pre:List Tm) (ρ:Nat→AV),t.kids=pre ++ post→ρ 1= .bx (Qa t)→ρ 3= .sl true 4 (encTs (t:: allL pre))→ρ 4= .int .i64 pre.length→
  R F.tb (.loop F.f237l0) ρ bs (Ql 0 (Qr F.tb F.f237r0 (Qt F.f237 bs)))=some (.sl false 4 (encTs (QY t)),bs):=by
 have hmk:=Qo t;have hn:=Zm t;have hnk:=Z0 t;intro post
 induction post with
 | nil=>
  intro pre ρ hk h1 h3 h4;simp only[List.append_nil]at hk;rw[← hk]at h3 h4;rw[← C3]at h3;rw[Qc F.f237l0.eq_1];simp[h1,h3,h4,F.f237r0]
 | cons x post IH=>
  intro pre ρ hk h1 h3 h4;have hg:=Qp hk;have hl:=Qx hk;have hw1:=wr1 pre.length (by omega);have hlt:=Qy hk;have hnn:nodesL t.kids=nodesL pre+ (x.nodes+nodesL post):=by rw[hk,Yr];simp[nodesL]
  have hb: ((allL pre).length+1+ (QY x).length)*56≤140737488355328:=by rw[allL_len,Wd];omega
  have hgl:t.kids[pre.length]'(by omega)=x:=by
   have:=List.getElem?_eq_getElem (l:=t.kids) (i:=pre.length) (by omega);rw[hg]at this;injection this with this;exact this.symm
  have hih:=ih x (by rw[hk];simp);have h2:=IH (pre ++ [x]);rw[Nc,show allL [x]=QY x by simp[allL]]at h2;rw[Qc F.f237l0.eq_1];simp[h1,h3,h4,hg,hgl,hlt,hw1,hih,hb,QP];rw[h2] <;> simp[h1,hk]
theorem U8: ∀(t:Tm) (bs:List (List AV)),t.mass < 100000000→call F.tb 237 [.agg (Qa t)] bs=some (.sl false 4 (encTs (QY t)),bs):=by
 refine Zp ?_;intro k n s ks ih bs hm;have hl:=fun ρ=>QeT (.mk k n s ks) bs hm (fun x hx bs=>ih x hx bs (by have:=QD hx;have:=Qo (.mk k n s ks);simp at *;omega)) ks [] ρ rfl;rw[Qb F.tb_237 _ _ rfl];simp[F.f237C,QO];refine hl _ ?_ ?_ ?_ <;> simp[allL,encTs]
theorem QeS (l:List Tm) (t:Tm) (bs:List (List AV)) (hl:l.length < 100000000) (hm: ∀x∈l,x.mass < big) (ht:t.mass < big):
  ∀(post pre acc:List Tm) (d:Bool) (ρ:Nat→AV),l=pre ++ post→acc.length≤pre.length+1→(d=false→acc.length=pre.length)→ρ 0= .sl false 4 (encTs l)→ρ 3= .bx (Qa t)→ρ 5= .sl true 4 (encTs acc)→ρ 6= .bool d→ρ 7= .int .i64 pre.length→
  R F.tb (.loop F.f239l0) ρ bs (Ql 0 (Qr F.tb F.f239r0 (Qt F.f239 bs)))=some (.sl false 4 (encTs (acc ++ if d then post else Zr t post)),bs):=by
 intro post
 induction post with
 | nil=>
  intro pre acc d ρ hk ha hd h0 h3 h5 h6 h7;simp only[List.append_nil]at hk;rw[← hk]at h7 ha hd;have hb: (acc.length+1)*56≤140737488355328:=by omega
  rw[Qc F.f239l0.eq_1];cases d
  ·simp[h0,h3,h5,h6,h7,F.f239r0,hb,Zr,QO,Q7,QP]
  ·simp[h0,h3,h5,h6,h7,F.f239r0,hb,Zr]
 | cons x post IH=>
  intro pre acc d ρ hk ha hd h0 h3 h5 h6 h7;have hg:=Qp hk;have hll:=Qx hk;have hw1:=wr1 pre.length (by omega);have hlt:=Qy hk;have hb: (acc.length+1)*56≤140737488355328:=Yi (by omega);have hb2: (acc.length+1+1)*56≤140737488355328:=Yi (by clear hb;omega);have hc:=Wr t x bs ht (hm x (by rw[hk];simp));rw[Qc F.f239l0.eq_1];cases d
  ·have hd:=hd rfl;by_cases h1:Qm t x < 0
   ·have hle:Qm t x≤0:=by omega
    have e:acc ++ (if false=true then x:: post else Zr t (x:: post))=(acc ++ [t]++ [x])++ (if true=true then post else Zr t post):=by simp[Zr,h1]
    rw[e];simp[h0,h3,h5,h6,h7,hg,hlt,hw1,hc,h1,hle,hb,hb2,QO,Q7,QP];clear hb hb2;rw[IH (pre ++ [x]) (acc ++ [t]++ [x]) true] <;> simp[h0,h3,hk] <;> omega
   ·by_cases h2:Qm t x=0
    ·have e:acc ++ (if false=true then x:: post else Zr t (x:: post))=(acc ++ [x])++ (if true=true then post else Zr t post):=by simp[Zr,h2]
     rw[e];simp[h0,h3,h5,h6,h7,hg,hlt,hw1,hc,h1,h2,hb,QO,Q7,QP];clear hb hb2;rw[IH (pre ++ [x]) (acc ++ [x]) true] <;> simp[h0,h3,hk] <;> omega
    ·have hle: ¬Qm t x≤0:=by omega
     have e:acc ++ (if false=true then x:: post else Zr t (x:: post))=(acc ++ [x])++ (if false=true then post else Zr t post):=by simp[Zr,h1,h2]
     rw[e];simp[h0,h3,h5,h6,h7,hg,hlt,hw1,hc,h1,h2,hle,hb,QO,Q7,QP];clear hb hb2;rw[IH (pre ++ [x]) (acc ++ [x]) false] <;> simp[h0,h3,hk] <;> omega
  ·have e:acc ++ (if true=true then x:: post else Zr t (x:: post))=(acc ++ [x])++ (if true=true then post else Zr t post):=by simp
   rw[e];simp[h0,h3,h5,h6,h7,hg,hlt,hw1,hc,hb,QO,Q7,QP];clear hb hb2;rw[IH (pre ++ [x]) (acc ++ [x]) true] <;> simp[h0,h3,hk] <;> omega
theorem Nh (l:List Tm) (t:Tm) (o:Bool) (bs:List (List AV)) (hl:l.length < 100000000) (hm: ∀x∈l,x.mass < big) (ht:t.mass < big):
  call F.tb 239 [.sl o 4 (encTs l),.agg (Qa t)] bs=some (.sl false 4 (encTs (Zr t l)),bs):=by
 have h:=fun ρ=>QeS l t bs hl hm ht l [] [] false ρ rfl (by simp) (fun _=>rfl);rw[Qb F.tb_239 _ _ rfl];simp[F.f239C];simp at h;refine h _ ?_ ?_ ?_ ?_ ?_ <;> simp[encTs]
theorem Qe3 (l:List Tm) (bs:List (List AV)) (hl:l.length < 100000000) (hm: ∀x∈l,x.mass < big):
  ∀(post pre acc:List Tm) (o:Bool) (ρ:Nat→AV),l=pre ++ post→acc.length≤pre.length→(∀x∈acc,x.mass < big)→ρ 0= .sl false 4 (encTs l)→ρ 3= .sl o 4 (encTs acc)→ρ 4= .int .i64 pre.length→
  R F.tb (.loop F.f238l0) ρ bs (Ql 0 (Qr F.tb F.f238r0 (Qt F.f238 bs)))=some (.sl false 4 (encTs (Vm acc post)),bs):=by
 intro post
 induction post with
 | nil=>
  intro pre acc o ρ hk ha hma h0 h3 h4;simp only[List.append_nil]at hk;rw[← hk]at h4;rw[Qc F.f238l0.eq_1];simp[h0,h3,h4,F.f238r0,Vm]
 | cons x post IH=>
  intro pre acc o ρ hk ha hma h0 h3 h4;have hg:=Qp hk;have hll:=Qx hk;have hw1:=wr1 pre.length (by omega);have hlt:=Qy hk;have hx:=hm x (by rw[hk];simp);have hc:=Nh acc x false bs (by omega) hma hx;have hln:=U7 x acc;rw[Qc F.f238l0.eq_1];simp[h0,h3,h4,hg,hlt,hw1,hc];rw[IH (pre ++ [x]) (Zr x acc) false] <;> (try simp[h0,hk,Vm])
  ·omega
  ·intro y hy;rcases Vg.1 hy with rfl | hy
   ·exact hx
   ·exact hma y hy
theorem F9 (l:List Tm) (o:Bool) (bs:List (List AV)) (hl:l.length < 100000000) (hm: ∀x∈l,x.mass < big):
  call F.tb 238 [.sl o 4 (encTs l)] bs=some (.sl false 4 (encTs (YM l)),bs):=by
 have h:=fun ρ=>Qe3 l bs hl hm l [] [] true ρ rfl (by simp) (by simp);rw[Qb F.tb_238 _ _ rfl];simp[F.f238C];refine h _ ?_ ?_ ?_ <;> simp[encTs]
theorem HM (l:List Tm) (bs:List (List AV)) (hl:l.length < 100000000) (hm:massL l < 100000000):
  ∀(post pre:List Tm) (ρ:Nat→AV),l=pre ++ post→ρ 0= .sl false 4 (encTs l)→ρ 3= .sl true 4 (encTs (allL pre))→ρ 4= .int .i64 pre.length→
  R F.tb (.loop F.f265l0) ρ bs (Ql 0 (Qr F.tb F.f265r0 (Qt F.f265 bs)))=some (.sl false 4 (encTs (YM (allL l))),bs):=by
 have hnm:=nodesL_le_mass l;intro post
 induction post with
 | nil=>
  intro pre ρ hk h0 h3 h4;simp only[List.append_nil]at hk;rw[← hk]at h4 h3;have hc:=fun o=>F9 (allL l) o bs (by rw[allL_len];omega) (fun x hx=>by have:=allL_mass l x hx;unfold big;omega);rw[Qc F.f265l0.eq_1];simp[h0,h3,h4,F.f265r0,hc]
 | cons x post IH=>
  intro pre ρ hk h0 h3 h4;have hg:=Qp hk;have hll:=Qx hk;have hw1:=wr1 pre.length (by omega);have hlt:=Qy hk;have hxm:x∈l:=by rw[hk];simp
  have hc:=U8 x bs (by have:=QD hxm;omega);have hnn:nodesL l=nodesL pre+ (x.nodes+nodesL post):=by rw[hk,Yr];simp[nodesL]
  have hb: ((allL pre).length+ (QY x).length)*56≤140737488355328:=by rw[allL_len,Wd];omega
  have h2:=IH (pre ++ [x]);rw[Nc,show allL [x]=QY x by simp[allL]]at h2;rw[Qc F.f265l0.eq_1];simp[h0,h3,h4,hg,hlt,hw1,hc,hb,QP];rw[h2] <;> simp[h0,hk]
theorem NS (l:List Tm) (o:Bool) (bs:List (List AV)) (hl:l.length < 100000000) (hm:massL l < 100000000):
  call F.tb 265 [.sl o 4 (encTs l)] bs=some (.sl false 4 (encTs (YM (allL l))),bs):=by
 have h:=fun ρ=>HM l bs hl hm l [] ρ rfl;rw[Qb F.tb_265 _ _ rfl];simp[F.f265C];refine h _ ?_ ?_ ?_ <;> simp[encTs,allL]
theorem QdT (t:Tm) (k:Int) (bs:List (List AV)) (hm:t.mass < 100000000):
  ∀(post pre:List Tm) (o:Bool) (ρ:Nat→AV),QY t=pre ++ post→ρ 1= .int .i64 k→ρ 5= .sl true 4 (encTs (pre.filter (Yl k)))→ρ 6= .sl o 4 (encTs (QY t))→ρ 7= .int .i64 pre.length→
  R F.tb (.loop F.f236l0) ρ bs (Ql 0 (Qr F.tb F.f236r0 (Qt F.f236 bs)))=some (.sl false 4 (encTs (YM ((QY t).filter (Yl k)))),bs):=by
 have hn:=Zm t;have hal:=Wd t;intro post
 induction post with
 | nil=>
  intro pre o ρ hk h1 h5 h6 h7;simp only[List.append_nil]at hk;rw[← hk]at h5 h7;have hfl:=List.length_filter_le (Yl k) (QY t);have hc:=fun o=>F9 ((QY t).filter (Yl k)) o bs (by omega) (fun x hx=>by have:=X4 t x (List.mem_filter.1 hx).1;unfold big;omega);rw[Qc F.f236l0.eq_1];simp[h1,h5,h6,h7,F.f236r0,hc]
 | cons x post IH=>
  intro pre o ρ hk h1 h5 h6 h7;have hg:=Qp hk;have hll: (QY t).length=pre.length+ (post.length+1):=by rw[hk];simp
  have hw1:=wr1 pre.length (by omega);have hlt: (pre.length:Int) < ((QY t).length:Int):=by omega
  have hfl:=List.length_filter_le (Yl k) pre;have hb: ((pre.filter (Yl k)).length+1)*56≤140737488355328:=by omega
  have h2:=IH (pre ++ [x]) o;rw[Qc F.f236l0.eq_1];by_cases hx:x.kind=k
  ·have hf: (pre ++ [x]).filter (Yl k)=pre.filter (Yl k)++ [x]:=by simp[List.filter_cons,Yl,hx]
   rw[hf]at h2;simp[h1,h5,h6,h7,hg,hlt,hw1,hx,hb,QO,Q7,QP];rw[h2] <;> simp[h1,h6,hk]
  ·have hf: (pre ++ [x]).filter (Yl k)=pre.filter (Yl k):=by simp[List.filter_cons,Yl,hx]
   rw[hf]at h2;simp[h1,h5,h6,h7,hg,hlt,hw1,hx];rw[h2] <;> simp[h1,h5,h6,hk]
theorem AX (t:Tm) (k:Int) (bs:List (List AV)) (hm:t.mass < 100000000):call F.tb 236 [.agg (Qa t),.int .i64 k] bs=some (.sl false 4 (encTs (YM ((QY t).filter (Yl k)))),bs):=by
 have h:=fun o ρ=>QdT t k bs hm (QY t) [] o ρ rfl;have hc:=U8 t bs hm;rw[Qb F.tb_236 _ _ rfl];simp[F.f236C,QO,hc];refine h false _ ?_ ?_ ?_ ?_ <;> simp[encTs]
theorem AW (t:Tm) (bs:List (List AV)) (hm:t.mass < 100000000):call F.tb 235 [.agg (Qa t)] bs=some (.sl false 4 (encTs (Uj t)),bs):=by
 have h:=AX t 1 bs hm;rw[Qb F.tb_235 _ _ rfl];simp[F.f235,F.f235C,QO,h,Uj]
theorem DM (t:Tm) (bs:List (List AV)) (hm:t.mass < 100000000):call F.tb 234 [.agg (Qa t)] bs=some (.bool (decide ((Uj t)=[])),bs):=by
 have h:=AW t bs hm;rw[Qb F.tb_234 _ _ rfl];simp[F.f234,F.f234C,QO,h]
def ZZ (l:List Tm) (t:Tm):Bool:=l.any fun x=>decide (Qm x t=0)
theorem WP {l:List Tm} {t:Tm}:ZZ l t=true↔t∈l:=by
 simp only[ZZ,List.any_eq_true,decide_eq_true_eq];constructor
 ·rintro⟨x,hx,h⟩;rw[← ZY _ _ h];exact hx
 ·intro h;exact⟨t,h,Yn t⟩
def WR (l:List Tm) (t:Tm):List Tm:=if ZZ l t then l.filter (fun x=> !decide (Qm x t=0))else Zr t l
def Yx (a b:List Tm):List Tm:=b.foldl WR a
theorem AM {l:List Tm} (p:Tm→Bool) (h:Asc l):Asc (l.filter p):=List.Pairwise.filter _ h
theorem Qe9 {l:List Tm} (t:Tm) (h:Asc l):Asc (WR l t):=by
 unfold WR;split
 ·exact AM _ h
 ·exact S5 h
theorem EZ {l:List Tm} {t y:Tm}:y∈WR l t↔(y∈l∧y≠t)∨(y=t∧t ∉ l):=by
 unfold WR;split
 ·rename_i h;rw[WP]at h;simp only[List.mem_filter,Bool.not_eq_true',decide_eq_false_iff_not,Nm];constructor
  ·rintro⟨h1,h2⟩;exact .inl ⟨h1,h2⟩
  ·rintro(⟨h1,h2⟩ | ⟨rfl,h2⟩)
   ·exact⟨h1,h2⟩
   ·exact absurd h h2
 ·rename_i h;rw[WP]at h;rw[Vg];constructor
  ·rintro(rfl | h1)
   ·exact .inr ⟨rfl,h⟩
   ·refine .inl ⟨h1,fun e=> ?_⟩;subst e;exact h h1
  ·rintro(⟨h1,h2⟩ | ⟨h1,h2⟩)
   ·exact .inr h1
   ·exact .inl h1
theorem TM: ∀(b a:List Tm),Asc a→Asc (Yx a b)
 | [],_,h=>h
 | x:: b,a,h=>TM b _ (Qe9 x h)
theorem MP {y:Tm}: ∀{b a:List Tm},Asc b→(y∈Yx a b↔(y∈a∧y ∉ b)∨(y ∉ a∧y∈b))
 | [],a,_=>by simp[Yx]
 | x:: b,a,h=>by
  rw[Yp]at h;have ih:=MP (y:=y) (b:=b) (a:=WR a x) h.2;have hxb:x ∉ b:=fun hm=>WY x (h.1 x hm);simp only[Yx,List.foldl_cons]at ih ⊢;rw[ih,EZ];simp only[List.mem_cons];by_cases e:y=x
  ·subst e;by_cases hy:y∈a <;> simp[hy,hxb]
  ·by_cases hy:y∈a <;> by_cases hb:y∈b <;> simp[hy,hb,e]
theorem VM: ∀(b a:List Tm),(Yx a b).length≤a.length+b.length
 | [],a=>by simp[Yx]
 | x:: b,a=>by
  have ih:=VM b (WR a x);have: (WR a x).length≤a.length+1:=by
   unfold WR;split
   ·have:=List.length_filter_le (fun y=> !decide (Qm y x=0)) a;omega
   ·exact U7 x a
  simp only[Yx,List.foldl_cons,List.length_cons]at ih ⊢;omega
def X1:List Tm→List Tm→List Tm
 | [],b=>b
 | a,[]=>a
 | x:: a,y:: b=>if Qm x y < 0 then x:: X1 a (y:: b)else if 0 < Qm x y then y:: X1 (x:: a) b else X1 a b
termination_by a b=>a.length+b.length
theorem MU (b:List Tm):X1 [] b=b:=by rw[X1]
theorem NE (a:List Tm):X1 a []=a:=by cases a <;> rw[X1];simp
theorem ND (x y:Tm) (a b:List Tm):X1 (x:: a) (y:: b)=if Qm x y < 0 then x:: X1 a (y:: b)else if 0 < Qm x y then y:: X1 (x:: a) b else X1 a b:=by rw[X1]
theorem UD {y:Tm}: ∀(n:Nat) (a b:List Tm),a.length+b.length≤n→Asc a→Asc b→(y∈X1 a b↔(y∈a∧y ∉ b)∨(y ∉ a∧y∈b))
 | _,[],b,_,_,_=>by rw[MU];simp
 | _,x:: a,[],_,_,_=>by rw[NE];simp
 | 0,x:: a,z:: b,h,_,_=>by simp at h
 | n+1,x:: a,z:: b,h,ha,hb=>by
  have ha0:=ha;have hb0:=hb;rw[Yp]at ha hb;simp only[List.length_cons]at h;rw[ND];split
  ·rename_i h1;rw[List.mem_cons,UD n a (z:: b) (by simp;omega) ha.2 hb0];have hxb:x ∉ z:: b:=fun hm=>by
    rcases List.mem_cons.1 hm with e | e
    ·subst e;exact WY x h1
    ·exact WY x (YD h1 (hb.1 x e))
   have hxa:x ∉ a:=fun hm=>WY x (ha.1 x hm);by_cases e:y=x
   ·subst e;simp[hxb]
   ·simp[e]
  ·rename_i h1;split
   ·rename_i h2;have h2':=Jb.1 h2;rw[List.mem_cons,UD n (x:: a) b (by simp;omega) ha0 hb.2];have hza:z ∉ x:: a:=fun hm=>by
     rcases List.mem_cons.1 hm with e | e
     ·subst e;exact WY z h2'
     ·exact WY z (YD h2' (ha.1 z e))
    have hzb:z ∉ b:=fun hm=>WY z (hb.1 z hm);by_cases e:y=z
    ·subst e;simp[hza]
    ·simp[e]
   ·rename_i h2;have e0:=ZY x z (by omega);subst e0;rw[UD n a b (by omega) ha.2 hb.2];have hxa:x ∉ a:=fun hm=>WY x (ha.1 x hm);have hxb:x ∉ b:=fun hm=>WY x (hb.1 x hm);by_cases e:y=x
    ·subst e;simp[hxa,hxb]
    ·simp[e]
theorem Ry: ∀(n:Nat) (a b:List Tm),a.length+b.length≤n→Asc a→Asc b→Asc (X1 a b)
 | _,[],b,_,_,hb=>by rw[MU];exact hb
 | _,x:: a,[],_,ha,_=>by rw[NE];exact ha
 | 0,x:: a,z:: b,h,_,_=>by simp at h
 | n+1,x:: a,z:: b,h,ha,hb=>by
  have ha0:=ha;have hb0:=hb;rw[Yp]at ha hb;simp only[List.length_cons]at h;rw[ND];split
  ·rename_i h1;rw[Yp];refine⟨fun y hy=> ?_,Ry n a (z:: b) (by simp;omega) ha.2 hb0⟩;rw[UD n a (z:: b) (by simp;omega) ha.2 hb0]at hy;rcases hy with⟨hy,_⟩ | ⟨_,hy⟩
   ·exact ha.1 y hy
   ·rcases List.mem_cons.1 hy with e | e
    ·subst e;exact h1
    ·exact YD h1 (hb.1 y e)
  ·rename_i h1;split
   ·rename_i h2;have h2':=Jb.1 h2;rw[Yp];refine⟨fun y hy=> ?_,Ry n (x:: a) b (by simp;omega) ha0 hb.2⟩;rw[UD n (x:: a) b (by simp;omega) ha0 hb.2]at hy;rcases hy with⟨hy,_⟩ | ⟨_,hy⟩
    ·rcases List.mem_cons.1 hy with e | e
     ·subst e;exact h2'
     ·exact YD h2' (ha.1 y e)
    ·exact hb.1 y hy
   ·exact Ry n a b (by omega) ha.2 hb.2
theorem Dc {a b:List Tm} (ha:Asc a) (hb:Asc b):X1 a b=Yx a b:=
 SR (Ry _ a b (Nat.le_refl _) ha hb) (TM b a ha) fun x=>by rw[UD _ a b (Nat.le_refl _) ha hb,MP hb]
def Zy:List UInt8:=[122,101,114,111]
def XOR:List UInt8:=[120,111,114]
mutual
def ZB:Tm→List Tm
 | .mk k n s ks=>if k=3∧n=Zy∧ks=[]then []else if k=3∧n=XOR then sumL [] ks else [.mk k n s ks]
def sumL (acc:List Tm):List Tm→List Tm
 | []=>acc
 | t:: ts=>sumL (Yx acc (ZB t)) ts
end
mutual
theorem Um: ∀t:Tm,Asc (ZB t)
 | .mk k n s ks=>by
  simp only[ZB];split
  ·exact Asc.nil
  ·split
   ·exact asc_sumL ks [] Asc.nil
   ·exact Lj _
theorem asc_sumL: ∀(ts acc:List Tm),Asc acc→Asc (sumL acc ts)
 | [],_,h=>h
 | t:: ts,acc,h=>asc_sumL ts _ (TM _ _ h)
end
theorem VI {y:Tm} {b a:List Tm} (hb:Asc b) (h:y∈Yx a b):y∈a∨y∈b:=by
 rw[MP hb]at h;rcases h with h | h
 ·exact .inl h.1
 ·exact .inr h.2
mutual
theorem Rt: ∀(t y:Tm),y∈ZB t→y∈QY t
 | .mk k n s ks,y,h=>by
  simp only[ZB]at h;simp only[QY,List.mem_cons];split at h
  ·simp at h
  ·split at h
   ·rcases sumL_mem ks [] y h with h | h
    ·simp at h
    ·exact .inr h
   ·simp at h;exact .inl h
theorem sumL_mem: ∀(ts acc:List Tm) (y:Tm),y∈sumL acc ts→y∈acc∨y∈allL ts
 | [],acc,y,h=> .inl h
 | t:: ts,acc,y,h=>by
  simp only[allL,List.mem_append];rcases sumL_mem ts _ y h with h | h
  ·rcases VI (Um t) h with h | h
   ·exact .inl h
   ·exact .inr (.inl (Rt t y h))
  ·exact .inr (.inr h)
end
mutual
theorem Rs: ∀t:Tm,(ZB t).length≤t.nodes
 | .mk k n s ks=>by
  simp only[ZB,Tm.nodes];split
  ·simp
  ·split
   ·have:=sumL_len ks [];simp at this;omega
   ·simp
theorem sumL_len: ∀(ts acc:List Tm),(sumL acc ts).length≤acc.length+nodesL ts
 | [],acc=>by simp[sumL,nodesL]
 | t:: ts,acc=>by
  have h1:=sumL_len ts (Yx acc (ZB t));have h2:=VM (ZB t) acc;have h3:=Rs t;simp only[sumL,nodesL]at *;omega
end
theorem HP (l:List Tm) (t:Tm) (bs:List (List AV)) (hl:l.length < 100000000) (hm: ∀x∈l,x.mass < big) (ht:t.mass < big):
  ∀(post pre:List Tm) (ρ:Nat→AV),l=pre ++ post→ρ 0= .sl false 4 (encTs l)→ρ 3= .bx (Qa t)→ρ 5= .int .i64 pre.length→
  R F.tb (.loop F.f250l0) ρ bs (Ql 0 (Qr F.tb F.f250r0 (Qt F.f250 bs)))=some (.bool (ZZ post t),bs):=by
 intro post
 induction post with
 | nil=>
  intro pre ρ hk h0 h3 h5;simp only[List.append_nil]at hk;rw[← hk]at h5;rw[Qc F.f250l0.eq_1];simp[h0,h3,h5,F.f250r0,ZZ]
 | cons x post IH=>
  intro pre ρ hk h0 h3 h5;have hg:=Qp hk;have hll:=Qx hk;have hw1:=wr1 pre.length (by omega);have hlt:=Qy hk;have hc:=Xa x t bs (hm x (by rw[hk];simp)) ht;rw[Qc F.f250l0.eq_1];by_cases he:Qm x t=0
  ·simp[h0,h3,h5,hg,hlt,hw1,hc,he,QO,ZZ]
  ·have e:ZZ (x:: post) t=ZZ post t:=by simp[ZZ,he]
   rw[e];simp[h0,h3,h5,hg,hlt,hw1,hc,he,QO];rw[IH (pre ++ [x])] <;> simp[h0,h3,hk]
theorem S6 (l:List Tm) (t:Tm) (o:Bool) (bs:List (List AV)) (hl:l.length < 100000000) (hm: ∀x∈l,x.mass < big) (ht:t.mass < big):
  call F.tb 250 [.sl o 4 (encTs l),.agg (Qa t)] bs=some (.bool (ZZ l t),bs):=by
 have h:=fun ρ=>HP l t bs hl hm ht l [] ρ rfl;rw[Qb F.tb_250 _ _ rfl];simp[F.f250C];refine h _ ?_ ?_ ?_ <;> simp
theorem QgJ (l:List Tm) (t:Tm) (bs:List (List AV)) (hl:l.length < 100000000) (hm: ∀x∈l,x.mass < big) (ht:t.mass < big):
  ∀(post pre:List Tm) (ρ:Nat→AV),l=pre ++ post→ρ 0= .sl false 4 (encTs l)→ρ 3= .bx (Qa t)→ρ 5= .sl true 4 (encTs (pre.filter (fun x=> !decide (Qm x t=0))))→ρ 6= .int .i64 pre.length→
  R F.tb (.loop F.f249l0) ρ bs (Ql 0 (Qr F.tb F.f249r0 (Qt F.f249 bs)))=some (.sl false 4 (encTs (l.filter (fun x=> !decide (Qm x t=0)))),bs):=by
 intro post
 induction post with
 | nil=>
  intro pre ρ hk h0 h3 h5 h6;simp only[List.append_nil]at hk;rw[← hk]at h5 h6;rw[Qc F.f249l0.eq_1];simp[h0,h3,h5,h6,F.f249r0]
 | cons x post IH=>
  intro pre ρ hk h0 h3 h5 h6;have hg:=Qp hk;have hll:=Qx hk;have hw1:=wr1 pre.length (by omega);have hlt:=Qy hk;have hfl:=List.length_filter_le (fun x=> !decide (Qm x t=0)) pre;have hb: ((pre.filter (fun x=> !decide (Qm x t=0))).length+1)*56≤140737488355328:=Yi (by omega);have hc:=Xa x t bs (hm x (by rw[hk];simp)) ht;have h2:=IH (pre ++ [x]);rw[Qc F.f249l0.eq_1];by_cases he:Qm x t=0
  ·have hf: (pre ++ [x]).filter (fun x=> !decide (Qm x t=0))=pre.filter (fun x=> !decide (Qm x t=0)):=by simp[List.filter_cons,he]
   rw[hf]at h2;generalize pre.filter (fun x=> !decide (Qm x t=0))=pf at *;generalize l.filter (fun x=> !decide (Qm x t=0))=lf at *;simp[h0,h3,h5,h6,hg,hlt,hw1,hc,he,QO];rw[h2] <;> simp[h0,h3,h5,hk]
  ·have hf: (pre ++ [x]).filter (fun x=> !decide (Qm x t=0))=pre.filter (fun x=> !decide (Qm x t=0))++ [x]:=by simp[List.filter_cons,he]
   rw[hf]at h2;generalize pre.filter (fun x=> !decide (Qm x t=0))=pf at *;generalize l.filter (fun x=> !decide (Qm x t=0))=lf at *;simp[h0,h3,h5,h6,hg,hlt,hw1,hc,he,hb,QO,Q7,QP];rw[h2] <;> simp[h0,h3,hk]
theorem DU (l:List Tm) (t:Tm) (o:Bool) (bs:List (List AV)) (hl:l.length < 100000000) (hm: ∀x∈l,x.mass < big) (ht:t.mass < big):
  call F.tb 249 [.sl o 4 (encTs l),.agg (Qa t)] bs=some (.sl false 4 (encTs (WR l t)),bs):=by
 have h:=fun ρ=>QgJ l t bs hl hm ht l [] ρ rfl;have hh:=S6 l t false bs hl hm ht;have ha:=Nh l t false bs hl hm ht;rw[Qb F.tb_249 _ _ rfl];cases hb:ZZ l t
 ·have e:WR l t=Zr t l:=by simp[WR,hb]
  rw[e];simp[F.f249C,QO,hh,hb,ha]
 ·have e:WR l t=l.filter (fun x=> !decide (Qm x t=0)):=by simp[WR,hb]
  rw[e];generalize l.filter (fun x=> !decide (Qm x t=0))=lf at *;simp[F.f249C,QO,hh,hb];refine h _ ?_ ?_ ?_ ?_ <;> simp[encTs]
theorem Ar (b:List Tm) (bs:List (List AV)) (hl:b.length < 40000000) (hm: ∀x∈b,x.mass < big):
  ∀(post pre acc:List Tm) (o:Bool) (ρ:Nat→AV),b=pre ++ post→acc.length+post.length < 90000000→(∀x∈acc,x.mass < big)→ρ 1= .sl false 4 (encTs b)→ρ 5= .sl o 4 (encTs acc)→ρ 6= .int .i64 pre.length→
  R F.tb (.loop F.f248l0) ρ bs (Ql 0 (Qr F.tb F.f248r0 (Qt F.f248 bs)))=some (.sl false 4 (encTs (Yx acc post)),bs):=by
 intro post
 induction post with
 | nil=>
  intro pre acc o ρ hk ha hma h1 h5 h6;simp only[List.append_nil]at hk;rw[← hk]at h6;rw[Qc F.f248l0.eq_1];simp[h1,h5,h6,F.f248r0,Yx]
 | cons x post IH=>
  intro pre acc o ρ hk ha hma h1 h5 h6;have hg:=Qp hk;have hll:=Qx hk;have hw1:=wr1 pre.length (by omega);have hlt:=Qy hk;have hx:=hm x (by rw[hk];simp);have hal:acc.length+ (post.length+1) < 90000000:=by simpa using ha
  have hc:=DU acc x false bs (by omega) hma hx;have htl: (WR acc x).length≤acc.length+1:=by
   have:=VM [x] acc;simpa[Yx]using this
  have htm: ∀y∈WR acc x,y.mass < big:=fun y hy=>by
   rcases EZ.1 hy with h | h
   ·exact hma y h.1
   ·rw[h.1];exact hx
  have h2:=fun ρ=>IH (pre ++ [x]) (WR acc x) false ρ (by rw[hk];simp) (by omega) htm;rw[Qc F.f248l0.eq_1];simp[h1,h5,h6,hg,hlt,hw1,hc];rw[show Yx acc (x:: post)=Yx (WR acc x) post from rfl];refine h2 _ ?_ ?_ ?_ <;> simp[h1]
theorem KX (a b:List Tm) (o o2:Bool) (bs:List (List AV)) (ha:a.length < 40000000) (hb:b.length < 40000000) (hma: ∀x∈a,x.mass < big) (hmb: ∀x∈b,x.mass < big):
  call F.tb 248 [.sl o 4 (encTs a),.sl o2 4 (encTs b)] bs=some (.sl false 4 (encTs (Yx a b)),bs):=by
 have h:=fun o ρ=>Ar b bs hb hmb b [] a o ρ rfl (by omega) hma;have hlim:a.length*56≤140737488355328:=Yi (by omega);rw[Qb F.tb_248 _ _ rfl];simp[F.f248C,hlim];refine h true _ ?_ ?_ ?_ <;> simp
theorem Qba (t:Tm) (bs:List (List AV)) (hm:t.mass < 30000000) (ih: ∀x∈t.kids,∀bs,∃o,call F.tb 247 [.agg (Qa x)] bs=some (.sl o 4 (encTs (ZB x)),bs)):
  ∀(post pre acc:List Tm) (o:Bool) (ρ:Nat→AV),t.kids=pre ++ post→acc.length+nodesL post < 30000000→(∀x∈acc,x.mass < big)→ρ 1= .bx (Qa t)→ρ 3= .sl o 4 (encTs acc)→ρ 4= .int .i64 pre.length→
  R F.tb (.loop F.f247l0) ρ bs (Ql 0 (Qr F.tb F.f247r0 (Qt F.f247 bs)))=some (.sl false 4 (encTs (sumL acc post)),bs):=by
 have hmk:=Qo t;intro post
 induction post with
 | nil=>
  intro pre acc o ρ hk ha hma h1 h3 h4;simp only[List.append_nil]at hk;rw[← hk]at h4;rw[Qc F.f247l0.eq_1];simp[h1,h3,h4,F.f247r0,sumL]
 | cons x post IH=>
  intro pre acc o ρ hk ha hma h1 h3 h4;have hg:=Qp hk;have hll:=Qx hk;have hgl:t.kids[pre.length]'(by omega)=x:=by
   have:=List.getElem?_eq_getElem (l:=t.kids) (i:=pre.length) (by omega);rw[hg]at this;injection this with this;exact this.symm
  have hw1:=wr1 pre.length (by omega);have hlt:=Qy hk;have hxk:x∈t.kids:=by rw[hk];simp
  have hxm:=QD hxk;have hxn:=Zm x;have hsl:=Rs x;simp only[nodesL]at ha;obtain⟨o1,hc1⟩:=ih x hxk bs;have hsm: ∀y∈ZB x,y.mass < big:=fun y hy=>by have:=X4 x y (Rt x y hy);unfold big;omega
  have hc2:=KX acc (ZB x) false false bs (by omega) (by omega) hma hsm;have hpl:=VM (ZB x) acc;have hpm: ∀y∈Yx acc (ZB x),y.mass < big:=fun y hy=>by
   rcases VI (Um x) hy with h | h
   ·exact hma y h
   ·exact hsm y h
  have h2:=fun ρ=>IH (pre ++ [x]) (Yx acc (ZB x)) false ρ (by rw[hk];simp) (by omega) hpm;rw[Qc F.f247l0.eq_1];simp[h1,h3,h4,hg,hgl,hlt,hw1,hc1,hc2,sumL];refine h2 _ ?_ ?_ ?_ <;> simp[h1]
theorem Iv: ∀(t:Tm) (bs:List (List AV)),t.mass < 30000000→∃o,call F.tb 247 [.agg (Qa t)] bs=some (.sl o 4 (encTs (ZB t)),bs):=by
 refine Zp ?_;intro k n s ks ih bs hm;have hmk:=Qo (.mk k n s ks);have hnm:=nodesL_le_mass ks;simp only[QN,Q5]at hmk;have hl:=fun ρ=>Qba (.mk k n s ks) bs hm (fun x hx bs=>ih x hx bs (by have:=QD hx;simp at this;omega)) ks [] [] true ρ rfl (by simp;omega) (by simp);rw[Qb F.tb_247 _ _ rfl];by_cases hk:k=3
 ·by_cases hz:n=Zy
  ·cases ks with
   | nil=>
    refine⟨true,?_⟩;simp[F.f247C,Qa,encTs,ZB,hk,hz,Zy]
   | cons x xs=>
    refine⟨true,?_⟩;simp only[Zy]at hz;have: ¬((xs.length:Int)+1=0):=by omega
    simp[F.f247C,Qa,ZB,hk,hz,Zy,XOR,this,encTs]
  ·by_cases hx:n=XOR
   ·refine⟨false,?_⟩;have e:ZB (.mk k n s ks)=sumL [] ks:=by simp[ZB,hk,hx,Zy,XOR]
    rw[e];have hb1: (n == [122,101,114,111])=false:=by simpa[Zy]using hz
    simp only[XOR]at hx;simp[F.f247C,Qa,hk,hx];refine hl _ ?_ ?_ ?_ <;> simp[Qa,encTs,hk,hx]
   ·refine⟨true,?_⟩;have e:ZB (.mk k n s ks)=[.mk k n s ks]:=by simp[ZB,hk,hx,hz]
    rw[e];have hb1: (n == [122,101,114,111])=false:=by simpa[Zy]using hz
    have hb2: (n == [120,111,114])=false:=by simpa[XOR]using hx
    have hb3: (n != [120,111,114])=true:=by simpa[XOR]using hx
    simp[F.f247C,Qa,hk,hb1,hb2,hb3,encTs]
 ·refine⟨true,?_⟩;have e:ZB (.mk k n s ks)=[.mk k n s ks]:=by simp[ZB,hk]
  rw[e];have hb: (k != 3)=true:=by simp[hk]
  simp[F.f247C,Qa,hk,hb,encTs]
@[simp] theorem QoM (x:Tm) (a:List Tm) (h:0 < (encTs (x:: a)).length): (encTs (x:: a))[0]=Qa x:=by simp[encTs]
def Vx (l:List Tm) (bs:List (List AV)) (r:Option (AV×List (List AV))):Prop:=∃o,r=some (.sl o 4 (encTs l),bs)
theorem Qd7 (bs:List (List AV)): ∀(n:Nat) (a b acc:List Tm) (o1 o2:Bool) (ρ:Nat→AV),a.length+b.length≤n→acc.length+a.length+b.length < 100000000→(∀x∈a,x.mass < big)→(∀x∈b,x.mass < big)→
   ρ 0= .sl o1 4 (encTs a)→ρ 1= .sl o2 4 (encTs b)→ρ 5= .sl true 4 (encTs acc)→
  Vx (acc ++ X1 a b) bs (R F.tb (.loop F.f183l0) ρ bs (Ql 0 (Qr F.tb F.f183r0 (Qt F.f183 bs)))):=by
 have hend: ∀(a b acc:List Tm) (o1 o2:Bool) (ρ:Nat→AV),(a=[]∨b=[])→acc.length+a.length+b.length < 100000000→ρ 0= .sl o1 4 (encTs a)→ρ 1= .sl o2 4 (encTs b)→ρ 5= .sl true 4 (encTs acc)→
   Vx (acc ++ X1 a b) bs (R F.tb F.f183r0 ρ bs (Qt F.f183 bs)):=by
  intro a b acc o1 o2 ρ hab hl h0 h1 h5;have e:X1 a b=a ++ b:=by
   rcases hab with rfl | rfl
   ·rw[MU];simp
   ·rw[NE];simp
  have hb1: (acc.length+a.length)*56≤140737488355328:=Yi (by omega);have hb2: (acc.length+ (a.length+b.length))*56≤140737488355328:=Yi (by clear hb1;omega);rw[e];refine⟨true,?_⟩;simp[h0,h1,h5,hb1,hb2,F.f183r0,QP,Nat.add_assoc]
 intro n
 induction n with
 | zero=>
  intro a b acc o1 o2 ρ hn hl hma hmb h0 h1 h5;have ha:a=[]:=List.eq_nil_of_length_eq_zero (by omega);subst ha;have h2:=fun ρ=>hend [] b acc o1 o2 ρ (.inl rfl) hl;rw[Qc F.f183l0.eq_1];simp[h0,h1,h5,encTs];refine h2 _ ?_ ?_ ?_ <;> simp[h0,h1,h5]
 | succ n IH=>
  intro a b acc o1 o2 ρ hn hl hma hmb h0 h1 h5
  match a,b with
  | [],b=>
   have h2:=fun ρ=>hend [] b acc o1 o2 ρ (.inl rfl) hl;rw[Qc F.f183l0.eq_1];simp[h0,h1,h5,encTs];refine h2 _ ?_ ?_ ?_ <;> simp[h0,h1,h5]
  | x:: a,[]=>
   have h2:=fun ρ=>hend (x:: a) [] acc o1 o2 ρ (.inr rfl) hl;have hp: (0:Int) < (a.length:Int)+1:=by omega
   rw[Qc F.f183l0.eq_1];simp[h0,h1,h5,hp];refine h2 _ ?_ ?_ ?_ <;> simp[h0,h1,h5]
  | x:: a,y:: b=>
   simp only[List.length_cons]at hn hl;have hp: (0:Int) < (a.length:Int)+1:=by omega
   have hp2: (0:Int) < (b.length:Int)+1:=by omega
   have hp3: (1:Int)≤(a.length:Int)+1:=by omega
   have hp4: (1:Int)≤(b.length:Int)+1:=by omega
   have hc:=call_Compare x y bs (hma x (by simp)) (hmb y (by simp));have hb: (acc.length+1)*56≤140737488355328:=Yi (by omega);have et: (encTs (x:: a)).take ((encTs (x:: a)).length)=encTs (x:: a):=List.take_length;have i1:=fun ρ=>IH a (y:: b) (acc ++ [x]) false o2 ρ (by simp;omega) (by simp;omega) (fun z hz=>hma z (by simp[hz])) hmb;have i2:=fun ρ=>IH (x:: a) b (acc ++ [y]) o1 false ρ (by simp;omega) (by simp;omega) hma (fun z hz=>hmb z (by simp[hz]));have i3:=fun ρ=>IH a b acc false false ρ (by omega) (by omega) (fun z hz=>hma z (by simp[hz])) (fun z hz=>hmb z (by simp[hz]));rw[Qc F.f183l0.eq_1,ND];clear hn;by_cases h1':Qm x y < 0
   ·simp only[h1',if_true];simp only[List.append_assoc,List.cons_append,List.nil_append]at i1;simp[h0,h1,h5,hp,hp2,hp3,hc,h1',hb,Q7,QP,T2,T4];refine i1 _ ?_ ?_ ?_ <;> simp[h1]
   ·by_cases h2':0 < Qm x y
    ·simp only[h1',h2',if_true,if_false];simp only[List.append_assoc,List.cons_append,List.nil_append]at i2;simp[h0,h1,h5,hp,hp2,hp4,hc,h1',h2',hb,Q7,QP,T2,T4];refine i2 _ ?_ ?_ ?_ <;> simp[h0]
    ·simp only[h1',h2',if_false];simp[h0,h1,h5,hp,hp2,hp3,hp4,hc,h1',h2',T2,T4];refine i3 _ ?_ ?_ ?_ <;> simp[h5]
theorem I4 (a b:List Tm) (o1 o2:Bool) (bs:List (List AV)) (hl:a.length+b.length < 100000000) (hma: ∀x∈a,x.mass < big) (hmb: ∀x∈b,x.mass < big):
  Vx (X1 a b) bs (call F.tb 183 [.sl o1 4 (encTs a),.sl o2 4 (encTs b)] bs):=by
 have h:=fun ρ=>Qd7 bs _ a b [] false false ρ (Nat.le_refl _) (by simp;omega) hma hmb;simp only[List.nil_append]at h;rw[Qb F.tb_183 _ _ rfl];simp[F.f183C];refine h _ ?_ ?_ ?_ <;> simp[encTs]
theorem QgF (t:Tm) (bs:List (List AV)) (hm:t.mass < 30000000) (ih: ∀x∈t.kids,∀bs,Vx (ZB x) bs (call F.tb 182 [.agg (Qa x)] bs)):
  ∀(post pre acc:List Tm) (o:Bool) (ρ:Nat→AV),t.kids=pre ++ post→acc.length+nodesL post < 30000000→Asc acc→(∀x∈acc,x.mass < big)→ρ 3= .sl o 4 (encTs acc)→ρ 31= .sl false 4 (encTs t.kids)→ρ 32= .int .i64 t.kids.length→ρ 33= .int .i64 pre.length→
  R F.tb (.loop F.f182l0) ρ bs (Ql 1 (Qr F.tb F.f182r0 (Ql 0 (Qr F.tb F.f182r1 (Qt F.f182 bs)))))=some (.sl false 4 (encTs (sumL acc post)),bs):=by
 have hmk:=Qo t;intro post
 induction post with
 | nil=>
  intro pre acc o ρ hk ha has hma h3 h31 h32 h33;simp only[List.append_nil]at hk;rw[← hk]at h33;rw[Qc F.f182l0.eq_1];simp[h3,h31,h32,h33,F.f182r0,sumL]
 | cons x post IH=>
  intro pre acc o ρ hk ha has hma h3 h31 h32 h33;have hg:=Qp hk;have hll:=Qx hk;have hw1:=wr1 pre.length (by omega);have hlt:=Qy hk;have hxk:x∈t.kids:=by rw[hk];simp
  have hxm:=QD hxk;have hxn:=Zm x;have hsl:=Rs x;simp only[nodesL]at ha;obtain⟨o1,hc1⟩:=ih x hxk bs;have hsm: ∀y∈ZB x,y.mass < big:=fun y hy=>by have:=X4 x y (Rt x y hy);unfold big;omega
  obtain⟨o2,hc2⟩:=I4 acc (ZB x) false false bs (by omega) hma hsm;rw[Dc has (Um x)]at hc2;have hpl:=VM (ZB x) acc;have hpm: ∀y∈Yx acc (ZB x),y.mass < big:=fun y hy=>by
   rcases VI (Um x) hy with h | h
   ·exact hma y h
   ·exact hsm y h
  have h2:=fun ρ=>IH (pre ++ [x]) (Yx acc (ZB x)) o2 ρ (by rw[hk];simp) (by omega) (TM _ _ has) hpm;rw[Qc F.f182l0.eq_1];simp[h3,h31,h32,h33,hg,hlt,hw1,QO,hc1,hc2,sumL];refine h2 _ ?_ ?_ ?_ ?_ <;> simp[h31,h32]
theorem HT: ∀(t:Tm) (bs:List (List AV)),t.mass < 30000000→Vx (ZB t) bs (call F.tb 182 [.agg (Qa t)] bs):=by
 refine Zp ?_;intro k n s ks ih bs hm;have hmk:=Qo (.mk k n s ks);have hnm:=nodesL_le_mass ks;simp only[QN,Q5]at hmk;have hl:=fun ρ=>QgF (.mk k n s ks) bs hm (fun x hx bs=>ih x hx bs (by have:=QD hx;simp at this;omega)) ks [] [] true ρ rfl (by simp;omega) Asc.nil (by simp);simp only[QN]at hl;rw[Qb F.tb_182 _ _ rfl];by_cases hk:k=3
 ·by_cases hz:n=Zy
  ·cases ks with
   | nil=>
    refine⟨true,?_⟩;simp[F.f182C,Qa,encTs,ZB,hk,hz,Zy]
   | cons x xs=>
    refine⟨true,?_⟩;simp only[Zy]at hz;have: ¬((xs.length:Int)+1=0):=by omega
    simp[F.f182C,Qa,ZB,hk,hz,Zy,XOR,this,encTs,F.f182r1]
  ·by_cases hx:n=XOR
   ·refine⟨false,?_⟩;have e:ZB (.mk k n s ks)=sumL [] ks:=by simp[ZB,hk,hx,Zy,XOR]
    rw[e];simp only[XOR]at hx;simp[F.f182C,Qa,hk,hx];refine hl _ ?_ ?_ ?_ ?_ <;> simp[encTs]
   ·refine⟨true,?_⟩;have e:ZB (.mk k n s ks)=[.mk k n s ks]:=by simp[ZB,hk,hx,hz]
    rw[e];have hb1: (n == [122,101,114,111])=false:=by simpa[Zy]using hz
    have hb2: (n == [120,111,114])=false:=by simpa[XOR]using hx
    simp[F.f182C,Qa,hk,hb1,hb2,encTs,F.f182r1]
 ·refine⟨true,?_⟩;have e:ZB (.mk k n s ks)=[.mk k n s ks]:=by simp[ZB,hk]
  rw[e];simp[F.f182C,Qa,hk,encTs,F.f182r1]
theorem HQ (t u:Tm) (o:Bool) (bs:List (List AV)) (ht:t.mass < big) (hu:u.mass < big):call F.tb 185 [.agg (Qa t),.sl o 1 [],.agg (Qa u)] bs=some (.tup [.agg (Qa u),.int .i64 0],bs):=by
 have h1:=fun bs=>TY t bs ht;have h2:=fun bs=>TY u bs hu;rw[Qb F.tb_185 _ _ rfl];have e1: ∀x y:List AV,(bs ++ [x]).set bs.length y=bs ++ [y]:=fun x y=>by rw[List.set_append];simp
 simp[F.f185C,h1,QO,e1,put];rw[Qc F.f185l0.eq_1];simp[F.f185r0,h2,QO,e1,put]
def Uh (ls:List (List Tm)):List (List AV):=ls.map fun l=>[AV.sl false 4 (encTs l)]
theorem Hd {ls pre post:List (List Tm)} {x:List Tm} (h:ls=pre ++ x:: post): (Uh ls)[pre.length]? =some [AV.sl false 4 (encTs x)]:=by subst h;simp[Uh]
theorem He (ls:List (List Tm)): (Uh ls).length=ls.length:=by simp[Uh]
theorem Qc6 (n:Nat) (bs:List (List AV)) (hn:n < 100000000):call F.tb 181 [.gs 0 0 0 0,.int .i64 n] bs=some (.sl true 4 [],bs):=by
 rw[Xv F.tb_181];simp only[Lz];rw[if_pos];refine⟨by omega,?_,by omega⟩;simp;exact Yi (by omega)
theorem Qa6 (ls:List (List Tm)) (bs:List (List AV)) (hl:ls.length < 1000) (hf:ls.flatten.length < 100000000):
  ∀(post pre:List (List Tm)) (ρ:Nat→AV),ls=pre ++ post→ρ 6= .sl true 4 (encTs pre.flatten)→ρ 25= .sl false 1 (Uh ls)→ρ 26= .int .i64 ls.length→ρ 27= .int .i64 pre.length→
  R F.tb (.loop F.f180l1) ρ bs (Ql 2 (Qr F.tb F.f180r0 (Qt F.f180 bs)))=some (.sl false 4 (encTs ls.flatten),bs):=by
 intro post
 induction post with
 | nil=>
  intro pre ρ hk h6 h25 h26 h27;simp only[List.append_nil]at hk;rw[← hk]at h27 h6;rw[Qc F.f180l1.eq_1];simp[h6,h25,h26,h27,F.f180r0]
 | cons x post IH=>
  intro pre ρ hk h6 h25 h26 h27;have hg:=Hd hk;have hll:=Qx hk;have hw1:=wr1 pre.length (by omega);have hlt:=Qy hk;have hfl:ls.flatten.length=pre.flatten.length+ (x.length+post.flatten.length):=by rw[hk];simp
  have hb: (pre.flatten.length+x.length)*56≤140737488355328:=Yi (by omega);have h2:=IH (pre ++ [x]);have e: (pre ++ [x]).flatten=pre.flatten ++ x:=by simp
  rw[e]at h2;generalize pre.flatten=pf at *;rw[Qc F.f180l1.eq_1];simp[h6,h25,h26,h27,hg,hlt,hw1,hb,QP];rw[h2] <;> simp[h25,h26,hk]
theorem Qa5 (ls:List (List Tm)) (bs:List (List AV)) (hl:ls.length < 1000) (hf:ls.flatten.length < 100000000):
  ∀(post pre:List (List Tm)) (ρ:Nat→AV),ls=pre ++ post→ρ 0= .sl false 1 (Uh ls)→ρ 3= .int .i64 pre.flatten.length→ρ 9= .sl false 1 (Uh ls)→ρ 10= .int .i64 ls.length→ρ 11= .int .i64 pre.length→
  R F.tb (.loop F.f180l0) ρ bs (Ql 0 (Qr F.tb F.f180r1 (Qt F.f180 bs)))=some (.sl false 4 (encTs ls.flatten),bs):=by
 intro post
 induction post with
 | nil=>
  intro pre ρ hk h0 h3 h9 h10 h11;simp only[List.append_nil]at hk;rw[← hk]at h11 h3;have hc:=Qc6 ls.flatten.length bs hf;have h1:=fun ρ=>Qa6 ls bs hl hf ls [] ρ rfl;generalize ls.flatten=lf at *;rw[Qc F.f180l0.eq_1];simp[h0,h3,h9,h10,h11,F.f180r1,hc];refine h1 _ ?_ ?_ ?_ ?_ <;> simp[h0,encTs,He]
 | cons x post IH=>
  intro pre ρ hk h0 h3 h9 h10 h11;have hg:=Hd hk;have hll:=Qx hk;have hw1:=wr1 pre.length (by omega);have hlt:=Qy hk;have hfl:ls.flatten.length=pre.flatten.length+ (x.length+post.flatten.length):=by rw[hk];simp
  have hw2:IntKind.i64.wrap ((pre.flatten.length:Int)+ (x.length:Int))=(pre.flatten.length:Int)+ (x.length:Int):=ZG (by omega) (by omega);have hnn: ¬((pre.flatten.length:Int)+ (x.length:Int) < 0):=by omega
  have h2:=IH (pre ++ [x]);have e: ((pre ++ [x]).flatten.length:Int)=(pre.flatten.length:Int)+ (x.length:Int):=by simp
  rw[e]at h2;generalize (pre.flatten.length:Int)=pf at *;rw[Qc F.f180l0.eq_1];simp[h0,h3,h9,h10,h11,hg,hlt,hw1,hw2,hnn];rw[h2] <;> simp[h0,h9,h10,hk]
theorem Tw (ls:List (List Tm)) (o:Bool) (bs:List (List AV)) (hl:ls.length < 1000) (hf:ls.flatten.length < 100000000):
  call F.tb 180 [.sl o 1 (Uh ls)] bs=some (.sl false 4 (encTs ls.flatten),bs):=by
 have h:=fun ρ=>Qa5 ls bs hl hf ls [] ρ rfl;rw[Qb F.tb_180 _ _ rfl];simp[F.f180C];refine h _ ?_ ?_ ?_ ?_ ?_ <;> simp[He]
def Vv:List Tm→Int
 | []=>0
 | t:: ts=>if QF t≠0 then QF t else Vv ts
theorem QaI (l:List Tm) (bs:List (List AV)) (hl:l.length < 100000000) (hm: ∀x∈l,x.mass < big): ∀(post pre:List Tm) (ρ:Nat→AV),l=pre ++ post→ρ 14= .sl false 4 (encTs l)→ρ 15= .int .i64 l.length→ρ 16= .int .i64 pre.length→
  R F.tb (.loop F.f179l0) ρ bs (Ql 0 (Qr F.tb F.f179r0 (Qt F.f179 bs)))=some (.int .i64 (Vv post),bs):=by
 intro post
 induction post with
 | nil=>
  intro pre ρ hk h14 h15 h16;simp only[List.append_nil]at hk;rw[← hk]at h16;rw[Qc F.f179l0.eq_1];simp[h14,h15,h16,F.f179r0,Vv]
 | cons x post IH=>
  intro pre ρ hk h14 h15 h16;have hg:=Qp hk;have hll:=Qx hk;have hw1:=wr1 pre.length (by omega);have hlt:=Qy hk;have hc:=XW x bs (hm x (by rw[hk];simp));rw[Qc F.f179l0.eq_1];by_cases hv:QF x=0
  ·simp[h14,h15,h16,hg,hlt,hw1,QO,hc,hv,Vv];rw[IH (pre ++ [x])] <;> simp[h14,h15,hk]
  ·simp[h14,h15,h16,hg,hlt,hw1,QO,hc,hv,Vv]
def WG (l:List Tm):Int:=if 200 < l.length then 3 else Vv l
theorem A3 (l:List Tm) (o o2:Bool) (bs:List (List AV)) (hl:l.length < 100000000) (hm: ∀x∈l,x.mass < big):call F.tb 179 [.sl o 4 (encTs l),.sl o2 4 []] bs=some (.int .i64 (WG l),bs):=by
 have h:=fun ρ=>QaI l bs hl hm l [] ρ rfl;have hc:=Tw [l,[]] false bs (by simp) (by simpa using hl);simp only[Uh,List.map_cons,List.map_nil,List.flatten_cons,List.flatten_nil,List.append_nil,encTs]at hc;rw[Qb F.tb_179 _ _ rfl];by_cases h2:200 < l.length
 ·have h2': (200:Int) < (l.length:Int):=by omega
  simp[F.f179C,h2',h2,WG]
 ·have h2': ¬(200:Int) < (l.length:Int):=by omega
  simp[F.f179C,h2',h2,WG,hc];refine h _ ?_ ?_ ?_ <;> simp
theorem Qkg {c:List AV} {n p:Nat} {pre:List Tm} {x:Tm} {v:AV} (hc:c.length=n*4) (hp:p=pre.length) (hlt:p < n) (ht: (c.map AV.strip).take (p*4)=Qu pre) (hv:v.strip= .sl false 4 (encTs x.kids)):
  ((c.take (p*4)++ (Qa x ++ c.drop (p*4+4))).set (p*4+3) v).length=n*4∧
  ((((c.take (p*4)++ (Qa x ++ c.drop (p*4+4))).set (p*4+3) v).map AV.strip).take ((p+1)*4))=Qu (pre ++ [x]):=by
 have h1: (c.take (p*4)).length=p*4:=by rw[List.length_take];omega
 have h2:=QR x;refine⟨by simp[h1,h2,hc];omega,?_⟩;have e: (c.take (p*4)++ (Qa x ++ c.drop (p*4+4))).set (p*4+3) v=c.take (p*4)++ ([.int .i64 x.kind,.str x.name,.int .i64 x.sort,v]++ c.drop (p*4+4)):=by
  rw[List.set_append,if_neg (by omega),h1,show p*4+3 - p*4=3 by omega,Qg];simp
 rw[e,List.map_append,List.map_append,List.map_take,ht];have h3: [AV.int .i64 x.kind,.str x.name,.int .i64 x.sort,v].map AV.strip=Qa x:=by rw[Qg];simp[hv]
 have hr: (Qu pre).length=p*4:=by rw[Z2 QR,hp]
 rw[h3,← List.append_assoc,List.take_append_of_le_length (by simp[hr,h2];omega),List.take_of_length_le (by simp[hr,h2];omega)];simp[Qu,X9,S0]
theorem Qf8 {c:List AV} {n p:Nat} {pre:List Tm} {x:Tm} (hc:c.length=n*4) (hp:p=pre.length) (hlt:p < n) (ht: (c.map AV.strip).take ((p+1)*4)=Qu (pre ++ [x])) (hx:x.kids=[]):
  (c.take (p*4+3)++ ([AV.sl false 4 []]++ c.drop (p*4+3+1))).length=n*4∧
  ((c.take (p*4+3)++ ([AV.sl false 4 []]++ c.drop (p*4+3+1))).map AV.strip).take ((p+1)*4)=Qu (pre ++ [x]):=by
 have h1: (c.take (p*4+3)).length=p*4+3:=by rw[List.length_take];omega
 refine⟨by simp[h1,hc];omega,?_⟩;have hr:Qu (pre ++ [x])=Qu pre ++ [.int .i64 x.kind,.str x.name,.int .i64 x.sort]++ [.sl false 4 []]:=by
  simp[Qu,X9,S0,Qg,hx,encTs]
 have hl0: (Qu pre).length=p*4:=by rw[Z2 QR,hp]
 have e1: (c.take (p*4+3)).map AV.strip=Qu pre ++ [.int .i64 x.kind,.str x.name,.int .i64 x.sort]:=by
  have h2: ((c.map AV.strip).take ((p+1)*4)).take (p*4+3)=(c.map AV.strip).take (p*4+3):=by rw[List.take_take];congr 1;omega
  rw[List.map_take,← h2,ht,hr,List.take_append_of_le_length (by simp[hl0]),List.take_of_length_le (by simp[hl0])]
 rw[List.map_append,List.map_append,e1,← List.append_assoc,List.take_append_of_le_length (by simp[hl0];omega),List.take_of_length_le (by simp[hl0];omega),hr];simp
theorem Qf7 (l:List Tm) (B:List (List AV)) (hl:l.length < 100000000) (hne:l≠[]) (hm: ∀x∈l,x.mass < big) (ih: ∀x∈l,∀bs,Vx x.kids bs (call F.tb 184 [.sl false 4 (encTs x.kids)] bs)):
  ∀(post pre:List Tm) (c:List AV) (ρ:Nat→AV),l=pre ++ post→c.length=l.length*4→(c.map AV.strip).take (pre.length*4)=Qu pre→ρ 3= .gs B.length 0 4 l.length→ρ 9= .sl false 4 (encTs l)→ρ 10= .int .i64 l.length→ρ 11= .int .i64 pre.length→
  Vx l B (R F.tb (.loop F.f184l0) ρ (B ++ [c]) (Ql 0 (Qr F.tb F.f184r0 (Qt F.f184 B)))):=by
 have es: ∀x y:List AV,(B ++ [x]).set B.length y=B ++ [y]:=fun x y=>by rw[List.set_append];simp
 have eg: ∀x:List AV,(B ++ [x])[B.length]? =some x:=fun x=>List.getElem?_concat_length;intro post
 induction post with
 | nil=>
  intro pre c ρ hk hc ht h3 h9 h10 h11;simp only[List.append_nil]at hk;rw[← hk]at h11 ht;have hz: ¬l.length=0:=fun e=>hne (List.eq_nil_of_length_eq_zero e);have hch:Yc c 0 4 l.length=encTs l:=by
   have e1:c.map AV.strip=Qu l:=by rw[← ht,List.take_of_length_le (by simp[hc])]
   have e2:Yc c 0 4 l.length=Yc (c.map AV.strip) 0 4 l.length:=by
    unfold Yc;apply List.map_congr_left;intro k _;rw[← List.map_drop,← List.map_take,List.map_map];apply List.map_congr_left;intro v _;exact(L3 v).symm
   rw[e2,e1];have:=XH (f:=Qa) (k:=4) QR Zu l [];rw[Ut,List.append_nil]at this;exact this
  have hg:gpfreeE (encTs l)=true:=encTs_gp l;have hle:l.length*4≤c.length:=by omega
  refine⟨true,?_⟩;rw[Qc F.f184l0.eq_1];simp[h3,h9,h10,h11,F.f184r0,Ys,hz,hne,hle,es,hch]
 | cons x post IH=>
  intro pre c ρ hk hc ht h3 h9 h10 h11;have hg:=Qp hk;have hll:=Qx hk;have hw1:=wr1 pre.length (by omega);have hlt:=Qy hk;have hlt':pre.length < l.length:=by omega
  have hx:=hm x (by rw[hk];simp);have hc1:=fun bs=>HQ x x true bs hx hx;obtain⟨o,hc2⟩:=ih x (by rw[hk];simp) (B ++ [c.take (pre.length*4)++ (Qa x ++ c.drop (pre.length*4+4))]);have hle:pre.length*4+4≤c.length:=by omega
  obtain⟨p1,p2⟩:=Qkg (v:= .sl o 4 (encTs x.kids)) hc rfl hlt' ht rfl;have hle2:pre.length*4+3 < (c.take (pre.length*4)++ (Qa x ++ c.drop (pre.length*4+4))).length:=by simp[QR];omega
  generalize hcc:c.take (pre.length*4)++ (Qa x ++ c.drop (pre.length*4+4))=cc at *;have hgl: ∀h:pre.length < (encTs l).length,(encTs l)[pre.length]=Qa x:=fun h=>by
   have:=List.getElem?_eq_getElem h;rw[Mt,hg]at this;injection this with this;exact this.symm
  rw[Qc F.f184l0.eq_1];by_cases hkz:x.kids=[]
  ·obtain⟨p3,p4⟩:=Qf8 p1 rfl hlt' p2 hkz;have hle3:pre.length*4+3+1≤(cc.set (pre.length*4+3) (.sl o 4 (encTs x.kids))).length:=by rw[p1];omega
   have i1:=fun ρ=>IH (pre ++ [x]) _ ρ (by rw[hk];simp) p3 (by simpa using p4);rw[hkz]at hc2 hle3 i1;have hle3':pre.length*4+3+1≤cc.length:=by simpa using hle3
   simp only[encTs,List.cons_append,List.nil_append]at hc2 hle3 i1;simp[h3,h9,h10,h11,hg,hgl,hlt,hlt',hw1,QO,hc1,eg,es,hle,hcc,hc2,hle2,hkz,encTs,hle3',QR];refine i1 _ ?_ ?_ ?_ ?_ <;> simp[h3,h9,h10]
  ·have hkl: ¬(x.kids.length:Int)=0:=by
    intro e;exact hkz (List.eq_nil_of_length_eq_zero (by omega))
   have i1:=fun ρ=>IH (pre ++ [x]) _ ρ (by rw[hk];simp) p1 (by simpa using p2);simp[h3,h9,h10,h11,hg,hgl,hlt,hlt',hw1,QO,hc1,eg,es,hle,hcc,hc2,hle2,hkz,hkl,QR];refine i1 _ ?_ ?_ ?_ ?_ <;> simp[h3,h9,h10]
theorem Qd5 (l:List Tm) (o:Bool) (bs:List (List AV)) (hl:l.length < 100000000) (hm: ∀x∈l,x.mass < big) (ih: ∀x∈l,∀bs,Vx x.kids bs (call F.tb 184 [.sl false 4 (encTs x.kids)] bs)):
  Vx l bs (call F.tb 184 [.sl o 4 (encTs l)] bs):=by
 have hb:l.length*56≤140737488355328:=Yi (by omega);have hb2: (l.length:Int)≤4611686018427387904:=by omega
 rw[Qb F.tb_184 _ _ rfl];by_cases hne:l=[]
 ·subst hne;refine⟨false,?_⟩;simp[F.f184C,encTs];rw[Qc F.f184l0.eq_1];simp[F.f184r0,Ys]
 ·have h:=fun c hc ρ=>Qf7 l bs hl hne hm ih l [] c ρ rfl hc (by simp[ZP]);have hlen: (List.replicate l.length [AV.int .i64 0,.str [],.int .i64 0,.sl true 4 []]).flatten.length=l.length*4:=by simp
  have h2:=h _ hlen;simp[F.f184C,hb,hb2];refine h2 _ ?_ ?_ ?_ ?_ <;> simp
theorem Qf6: ∀(t:Tm) (bs:List (List AV)),t.mass < 100000000→Vx t.kids bs (call F.tb 184 [.sl false 4 (encTs t.kids)] bs):=by
 refine Zp ?_;intro k n s ks ih bs hm;have hmk:=Qo (.mk k n s ks);simp only[QN,Q5]at hmk ⊢;exact Qd5 ks false bs (by omega) (fun x hx=>by have:=QD hx;unfold big;omega) fun x hx bs=>ih x hx bs (by have:=QD hx;omega)
theorem Qfg (l:List Tm) (o:Bool) (bs:List (List AV)) (hl:l.length < 100000000) (hm: ∀x∈l,x.mass < 100000000):Vx l bs (call F.tb 184 [.sl o 4 (encTs l)] bs):=
 Qd5 l o bs hl (fun x hx=>by have:=hm x hx;unfold big;omega) fun x hx bs=>Qf6 x bs (hm x hx)
end Go.Am
