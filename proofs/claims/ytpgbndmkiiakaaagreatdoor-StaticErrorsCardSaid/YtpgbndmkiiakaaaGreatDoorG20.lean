/-
  Rc29, Rc30, Rc31, Rc32, Rc33, Rc34, Rc35, Rc36, Rc37, Rc38.
-/
import Derived.Test.YtpgbndmkiiakaaaGreatDoorG19
set_option linter.unusedVariables false
set_option linter.unusedSimpArgs false
namespace Go.Am
set_option maxRecDepth 8000
def WM (c:UInt8):Bool:=decide (48≤c.toNat) && decide (c.toNat≤57)
def U4:List UInt8:=[48,49,50,51,52,53,54,55,56,57]
theorem Qfy: ∀d:Fin 256,U4.contains (UInt8.ofNat d.val)=WM (UInt8.ofNat d.val):=by decide
theorem Qfz (c:UInt8):U4.contains c=WM c:=by
 have h:=Qfy ⟨c.toNat,c.toNat_lt⟩;simp only[UInt8.ofNat_toNat]at h;exact h
theorem K3 {p:UInt8→Bool}: ∀{l:List UInt8},l.dropWhile p=[]↔∀x∈l,p x=true
 | []=>by simp
 | a:: l=>by
  rw[List.dropWhile_cons];cases h:p a
  ·simp[h]
  ·simp[h,K3 (l:=l)]
theorem QgK (s:List UInt8): (Lib.trimS s U4 == [])=s.all WM:=by
 have hp: (fun b=>U4.contains b)=WM:=funext Qfz;cases hs:s.all WM
 ·have hne:Lib.trimS s U4≠[]:=by
   intro e;unfold Lib.trimS Lib.trimLeftS Lib.trimRightS at e;rw[hp]at e;have h1:=K3.1 e;cases hw:s.reverse.dropWhile WM with
   | nil=>
    have h2:=K3.1 hw;have:s.all WM=true:=List.all_eq_true.2 fun x hx=>h2 x (by simpa using hx);rw[hs]at this;cases this
   | cons x r=>
    have h2:WM x=false:=by
     have:=List.head_dropWhile_not WM (l:=s.reverse) (by rw[hw];simp);simpa[hw]using this
    have h3:=h1 x (by rw[hw];simp);rw[h2]at h3;cases h3
  simpa using hne
 ·have:Lib.trimS s U4=[]:=by
   unfold Lib.trimS Lib.trimLeftS Lib.trimRightS;rw[hp];have:s.reverse.dropWhile WM=[]:=K3.2 fun x hx=>List.all_eq_true.1 hs x (by simpa using hx);rw[this];rfl
  simp[this]
def VL (s:List UInt8):Bool:=match s with
 | 101:: 35:: c:: r=>(c:: r).all WM
 | _=>false
def ZK (t:Tm):Bool:=
 if t.kind=3 then(t.name == Zy || t.name == ONE) && decide (t.kids.length=0)
 else if t.kind=2 then(if t.sort=1∨t.sort=5 then true else if t.sort=4 then t.name == [103] || VL t.name else if t.sort=0∨t.sort=2∨t.sort=3 then VL t.name else false)
 else false
def Ev (s:List UInt8):Bool:= !(s == []) && s.all WM
theorem Qh4 (s:List UInt8) (bs:List (List AV)) (hs:s.length < 4294967281):call F.tb 163 [.str s] bs=some (.bool (Ev s),bs):=by
 have ht:call F.tb 164 [.str s,.str U4] bs=some (.str (Lib.trimS s U4),bs):=by
  rw[Xv F.tb_164];have hc: (U4.all (· < 128) && decide (s.length < 4294967281) && decide (U4.length < 4294967281))=true:=by
   rw[show U4.all (· < 128)=true from by decide];simp[hs,U4]
  simp only[XA,JA,hc,if_true];rfl
 have hn:=QgK s;rw[Qb F.tb_163 _ _ rfl];simp only[U4]at ht hn;cases he:s == []
 ·simp[F.f163C,ht,hn,he,Ev,bne,-List.all_eq_true]
 ·simp[F.f163C,ht,hn,he,Ev,bne,-List.all_eq_true]
def Wo (s:List UInt8):Bool:=decide (2≤s.length) && (s.take 2 == [101,35])
theorem Qmo (s:List UInt8) (bs:List (List AV)):call F.tb 75 [.str s,.str [101,35]] bs=some (.bool (Wo s),bs):=by
 rw[Qb F.tb_75 _ _ rfl];by_cases h:2≤s.length
 ·have h': (2:Int)≤(s.length:Int):=by omega
  simp[F.f75C,Wo,h,h']
 ·have h': ¬(2:Int)≤(s.length:Int):=by omega
  simp[F.f75C,Wo,h,h']
theorem Qmn (s:List UInt8) (bs:List (List AV)):call F.tb 73 [.str s,.str [101,35]] bs=some (.tup [.str (if Wo s then s.drop 2 else s),.bool (Wo s)],bs):=by
 have h1:=Qmo s bs;have h2:call F.tb 74 [.str s,.str [101,35]] bs=some (.tup [.str (if Wo s then s.drop 2 else s),.bool (Wo s)],bs):=by
  rw[Qb F.tb_74 _ _ rfl];cases hc:Wo s
  ·simp[F.f74C,h1,hc]
  ·have hl:2≤s.length:=by simp[Wo]at hc;exact hc.1
   have hl': (2:Int)≤(s.length:Int):=by omega
   simp[F.f74C,h1,hc,hl,hl']
 rw[Qb F.tb_73 _ _ rfl];generalize (if Wo s then s.drop 2 else s)=w at *;simp[F.f73C,h2]
theorem Qkf (s:List UInt8): (Wo s && Ev (if Wo s then s.drop 2 else s))=VL s:=by
 cases hc:Wo s
 ·rw[Bool.false_and];unfold VL;split
  ·simp[Wo]at hc
  ·rfl
 ·simp only[if_true,Bool.true_and]
  match s,hc with
  | [],hc=>simp[Wo]at hc
  | [_],hc=>simp[Wo]at hc
  | [a,b],hc=>
   simp[Wo]at hc;obtain⟨rfl,rfl⟩:=hc;rfl
  | a:: b:: c:: r,hc=>
   simp[Wo]at hc;obtain⟨rfl,rfl⟩:=hc;simp[Ev,VL]
theorem Qm7 (x a b:List UInt8) (bs:List (List AV)):call F.tb 162 [.sl false 1 [[.str a],[.str b]],.str x] bs=some (.int .i64 (if x == a then 0 else if x == b then 1 else -1),bs):=by
 rw[Qb F.tb_162 _ _ rfl];simp[F.f162C];rw[Qc F.f162l0.eq_1];cases h1:x == a
 ·have g1: ¬x=a:=by simpa using h1
  simp[h1,g1];rw[Qc F.f162l0.eq_1];cases h2:x == b
  ·have hw:IntKind.i64.wrap 1=1:=rfl;have hw2:IntKind.i64.wrap 2=2:=rfl;have g2: ¬x=b:=by simpa using h2
   simp[h2,hw,hw2,g2];rw[Qc F.f162l0.eq_1];simp[F.f162r0]
  ·have hw:IntKind.i64.wrap 1=1:=rfl;have g2:x=b:=by simpa using h2
   simp[h2,hw,← g2]
 ·have g1:x=a:=by simpa using h1
  simp[h1,← g1]
theorem Qh3 (t:Tm) (bs:List (List AV)) (hk:t.kind=3):call F.tb 160 [.agg (Qa t),.sl false 1 [[.str Zy],[.str ONE]]] bs=some (.bool (t.name == Zy || t.name == ONE),bs):=by
 have h:=Qm7 t.name Zy ONE bs;have h2:call F.tb 161 [.sl false 1 [[.str Zy],[.str ONE]],.str t.name] bs=some (.bool (t.name == Zy || t.name == ONE),bs):=by
  rw[Qb F.tb_161 _ _ rfl];cases h1:t.name == Zy
  ·cases h3:t.name == ONE <;> simp[h1,h3]at h <;> simp[F.f161C,h]
  ·simp[h1]at h;simp[F.f161C,h]
 rw[Qb F.tb_160 _ _ rfl];simp[F.f160C,hk,h2]
theorem OR (t:Tm) (bs:List (List AV)) (hm:t.mass < 1000000):call F.tb 159 [.agg (Qa t)] bs=some (.bool (ZK t),bs):=by
 have hme:=Qo t;rw[Qb F.tb_159 _ _ rfl];by_cases hk:t.kind=3
 ·have h1:=Qh3 t bs hk;simp only[Zy,ONE]at h1;cases hz: (t.name == [122,101,114,111] || t.name == [111,110,101])
  ·rw[hz]at h1;simp[F.f159C,hk,h1,ZK,Zy,ONE,hz]
   try (simp at hz;simp[hz])
  ·rw[hz]at h1;by_cases hl:t.kids=[]
   ·simp[F.f159C,hk,h1,ZK,Zy,ONE,hz,hl]
   ·have hl0: ¬t.kids.length=0:=fun e=>hl (List.eq_nil_of_length_eq_zero e);have hl': ¬(t.kids.length:Int)=0:=by omega
    simp[F.f159C,hk,h1,ZK,Zy,ONE,hl,hl']
 ·by_cases hk2:t.kind=2
  ·have h1:=Qmn t.name bs;have h2:=Qh4 (if Wo t.name then t.name.drop 2 else t.name) bs (by
    split
    ·rw[List.length_drop];omega
    ·omega)
   have ho:=Qkf t.name;generalize (if Wo t.name then t.name.drop 2 else t.name)=w at *;have hp:ZK t=if t.sort=1∨t.sort=5 then true else if t.sort=4 then t.name == [103] || VL t.name else if t.sort=0∨t.sort=2∨t.sort=3 then VL t.name else false:=by
    unfold ZK;rw[if_neg hk,if_pos hk2]
   rw[hp];generalize VL t.name=O at *;by_cases s1:t.sort=1
   ·simp[F.f159C,hk2,h1,s1]
   ·by_cases s5:t.sort=5
    ·simp[F.f159C,hk2,h1,s5]
    ·by_cases s4:t.sort=4
     ·cases hg:t.name == [103]
      ·cases hcu:Wo t.name
       ·rw[hcu]at h1 ho;simp at ho;subst ho;simp[F.f159C,hk2,h1,s4,hg]
       ·rw[hcu]at h1 ho;simp at ho;subst ho;simp[F.f159C,hk2,h1,h2,s4,hg]
      ·simp[F.f159C,hk2,h1,s4,hg]
     ·by_cases s0:t.sort=0∨t.sort=2∨t.sort=3
      ·cases hcu:Wo t.name
       ·rw[hcu]at h1 ho;simp at ho;subst ho;rcases s0 with s0 | s0 | s0 <;> simp[F.f159C,hk2,h1,s0]
       ·rw[hcu]at h1 ho;simp at ho;subst ho;rcases s0 with s0 | s0 | s0 <;> simp[F.f159C,hk2,h1,h2,s0]
      ·simp only[not_or]at s0;simp[F.f159C,hk2,h1,s1,s5,s4,s0.1,s0.2.1,s0.2.2]
  ·have hp:ZK t=false:=by unfold ZK;rw[if_neg hk,if_neg hk2]
   rw[hp];simp[F.f159C,hk,hk2]
theorem QaA (s:List UInt8) (bs:List (List AV)) (hs:s.length < 1000000000): ∀(post pre:List UInt8) (ρ:Nat→AV),s=pre ++ post→ρ 0= .str s→ρ 3= .int .i64 pre.length→
  R F.tb (.loop F.f232l0) ρ bs (Ql 0 (Qr F.tb F.f232r0 (Qt F.f232 bs)))=some (.bool (post.all WM),bs):=by
 intro post
 induction post with
 | nil=>
  intro pre ρ hk h0 h3;simp only[List.append_nil]at hk;rw[← hk]at h3;rw[Qc F.f232l0.eq_1];simp[h0,h3,F.f232r0]
 | cons c post IH=>
  intro pre ρ hk h0 h3;have hg:=Qp hk;have hll:=Qx hk;have hw1:=wr1 pre.length (by omega);have hlt:=Qy hk;have h2:=fun ρ=>IH (pre ++ [c]) ρ (by rw[hk];simp);rw[List.all_cons];rw[Qc F.f232l0.eq_1];by_cases c1:c.toNat < 48
  ·have e:WM c=false:=by simp[WM];omega
   have c1': (c.toNat:Int) < 48:=by omega
   simp[-getElem?_pos,h0,h3,hg,hlt,c1,c1',e]
  ·have c1': ¬(c.toNat:Int) < 48:=by omega
   by_cases c2:57 < c.toNat
   ·have e:WM c=false:=by simp[WM];omega
    have c2': (57:Int) < (c.toNat:Int):=by omega
    simp[-getElem?_pos,h0,h3,hg,hlt,c1,c1',c2,c2',e]
   ·have e:WM c=true:=by simp[WM];omega
    have c2': ¬(57:Int) < (c.toNat:Int):=by omega
    rw[e,Bool.true_and];simp[-getElem?_pos,h0,h3,hg,hlt,hw1,c1,c1',c2,c2',-List.all_eq_true];apply h2 <;> simp[h0]
theorem Qis (s:List UInt8) (bs:List (List AV)) (hs:s.length < 1000000000):call F.tb 232 [.str s] bs=some (.bool (VL s),bs):=by
 rw[Qb F.tb_232 _ _ rfl];by_cases h3:s.length < 3
 ·have h3': (s.length:Int) < 3:=by omega
  have e:VL s=false:=by
   unfold VL;split
   ·exfalso;simp only[List.length_cons]at h3;omega
   ·rfl
  simp[F.f232C,h3,h3',e]
 ·have h3': ¬(s.length:Int) < 3:=by omega
  have hl2:2≤s.length:=by omega
  have hl2': (2:Int)≤(s.length:Int):=by omega
  cases hp:s.take 2 == [101,35]
  ·have e:VL s=false:=by
    unfold VL;split
    ·simp at hp
    ·rfl
   simp[F.f232C,h3,h3',hl2,hl2',hp,e,bne]
  ·match s,hp,h3,hs with
   | a:: b:: c:: r,hp,h3,hs=>
    have h2:=fun ρ=>QaA (a:: b:: c:: r) bs hs (c:: r) [a,b] ρ rfl;simp at hp;obtain⟨rfl,rfl⟩:=hp;have e:VL (101:: 35:: c:: r)=(c:: r).all WM:=rfl;rw[e];simp only[List.length_cons,List.length_nil]at h3' hl2 hl2' h2;generalize (c:: r).all WM=O at *;have h3'': ¬((r.length:Int)+1+1+1 < 3):=by omega
    have hl3: (2:Int)≤(r.length:Int)+1+1+1:=by omega
    simp[F.f232C,h3'',hl3,bne];apply h2 <;> simp
   | [],hp,_,_=>simp at hp
   | [_],hp,_,_=>simp at hp
   | [_,_],hp,h3,_=>simp at h3
theorem OS (t:Tm) (bs:List (List AV)) (hm:t.mass < 1000000):call F.tb 231 [.agg (Qa t)] bs=some (.bool (ZK t),bs):=by
 have hme:=Qo t;have ho:=Qis t.name bs (by omega);rw[Qb F.tb_231 _ _ rfl];by_cases hk:t.kind=3
 ·have hp:ZK t=((t.name == Zy || t.name == ONE) && decide (t.kids.length=0)):=by unfold ZK;rw[if_pos hk]
  rw[hp];by_cases hl:t.kids=[]
  ·cases h1:t.name == Zy
   ·cases h2:t.name == ONE <;> simp only[Zy,ONE]at h1 h2 <;> simp[F.f231C,hk,h1,h2,hl]
   ·simp only[Zy]at h1;simp[F.f231C,hk,h1,hl]
  ·have hl0: ¬t.kids.length=0:=fun e=>hl (List.eq_nil_of_length_eq_zero e);have hl': ¬(t.kids.length:Int)=0:=by omega
   cases h1:t.name == Zy
   ·cases h2:t.name == ONE <;> simp only[Zy,ONE]at h1 h2 <;> simp[F.f231C,hk,h1,h2,hl,hl']
   ·simp only[Zy]at h1;simp[F.f231C,hk,h1,hl,hl']
 ·by_cases hk2:t.kind=2
  ·have hp:ZK t=if t.sort=1∨t.sort=5 then true else if t.sort=4 then t.name == [103] || VL t.name else if t.sort=0∨t.sort=2∨t.sort=3 then VL t.name else false:=by
    unfold ZK;rw[if_neg hk,if_pos hk2]
   rw[hp];generalize VL t.name=O at *;by_cases s1:t.sort=1
   ·simp[F.f231C,hk2,s1]
   ·by_cases s5:t.sort=5
    ·simp[F.f231C,hk2,s5]
    ·by_cases s4:t.sort=4
     ·cases hg:t.name == [103]
      ·simp[F.f231C,hk2,s4,hg,ho]
      ·simp[F.f231C,hk2,s4,hg]
     ·by_cases s0:t.sort=0∨t.sort=2∨t.sort=3
      ·cases hg:t.name == [103]
       ·rcases s0 with s0 | s0 | s0 <;> simp[F.f231C,hk2,s0,ho,hg]
       ·rcases s0 with s0 | s0 | s0 <;> simp[F.f231C,hk2,s0,ho,hg]
      ·simp only[not_or]at s0;cases hg:t.name == [103]
       ·simp[F.f231C,hk2,s1,s5,s4,s0.1,s0.2.1,s0.2.2,hg]
       ·simp[F.f231C,hk2,s1,s5,s4,s0.1,s0.2.1,s0.2.2,hg]
  ·have hp:ZK t=false:=by unfold ZK;rw[if_neg hk,if_neg hk2]
   rw[hp];simp[F.f231C,hk,hk2]
def Y7 (x:Tm):Int:=if thV x≠0 then thV x else if Uj x≠[]then 13 else if UY x then 0 else 10
def WS:List Tm→Int
 | []=>0
 | x:: r=>if Y7 x≠0 then Y7 x else WS r
def Y1:Option Tm→List Tm→Int
 | _,[]=>0
 | prev,x:: r=>if QF x≠0 then QF x else if x.kind≠2∨ZK x=true then 1 else if gtO prev x then Y1 (some x) r else 5
structure Fr where
 s:List Tm
 t:List Tm
def Qj (f:Fr):List AV:=[.sl false 4 (encTs f.s),.sl false 4 (encTs f.t)]
def QI (f:Fr):Int:=if 40 < f.s.length∨40 < f.t.length then 3 else if Y1 none f.s≠0 then Y1 none f.s else WS f.t
theorem QgM (l:List Tm) (bs:List (List AV)) (hl:l.length < 1000000) (hm: ∀x∈l,x.mass < 1000000):
  ∀(post pre:List Tm) (ρ:Nat→AV),l=pre ++ post→ρ 54= .sl false 4 (encTs l)→ρ 55= .int .i64 l.length→ρ 56= .int .i64 pre.length→
  R F.tb (.loop F.f158l1) ρ bs (Ql 2 (Qr F.tb F.f158r0 (Qt F.f158 bs)))=some (.int .i64 (WS post),bs):=by
 intro post
 induction post with
 | nil=>
  intro pre ρ hk h1 h2 h3;simp only[List.append_nil]at hk;rw[← hk]at h3;rw[Qc F.f158l1.eq_1];simp[h1,h2,h3,F.f158r0,WS]
 | cons x post IH=>
  intro pre ρ hk h1 h2 h3;have hg:=Qp hk;have hll:=Qx hk;have hw1:=wr1 pre.length (by omega);have hlt:=Qy hk;have hxm:=hm x (by rw[hk];simp);have hxb:x.mass < big:=by unfold big;omega
  have c1:=VD x bs hxb;have c2:=Qc7 x bs (by omega);have c3:=Qh5 x bs hxb;have hh:=fun ρ=>IH (pre ++ [x]) ρ (by rw[hk];simp);rw[Qc F.f158l1.eq_1];by_cases e1:thV x=0
  ·by_cases e2:Uj x=[]
   ·rw[e2]at c2;simp only[encTs]at c2;cases e3:UY x
    ·simp[h1,h2,h3,hg,hlt,c1,c2,c3,e1,e2,e3,WS,Y7]
    ·simp[h1,h2,h3,hg,hlt,hw1,c1,c2,c3,e1,e2,e3,WS,Y7];apply hh <;> simp[h1,h2]
   ·have hp:0 < (Uj x).length:=List.length_pos_iff.2 e2;have hp': (0:Int) < ((Uj x).length:Int):=by omega
    simp[h1,h2,h3,hg,hlt,c1,c2,e1,e2,hp,WS,Y7]
  ·simp[h1,h2,h3,hg,hlt,c1,e1,WS,Y7]
def Nz (l:List Tm):Option Tm:=l.getLast?
theorem RM:Nz []=none:=rfl
theorem RL (l:List Tm) (p:Tm):Nz (l ++ [p])=some p:=by simp[Nz]
theorem Qgu (f:Fr) (bs:List (List AV)) (hl:f.s.length < 1000000) (hm: ∀x∈f.s,x.mass < 1000000) (X:Int)
  (hX: ∀ρ:Nat→AV,ρ 1= .bx (Qj f)→R F.tb F.f158r1 ρ bs (Qt F.f158 bs)=some (.int .i64 X,bs)):
  ∀(post pre:List Tm) (ρ:Nat→AV),f.s=pre ++ post→ρ 1= .bx (Qj f)→ρ 20= .sl false 4 (encTs f.s)→ρ 21= .int .i64 f.s.length→ρ 22= .int .i64 pre.length→
  R F.tb (.loop F.f158l0) ρ bs (Ql 0 (Qr F.tb F.f158r1 (Qt F.f158 bs)))=some (.int .i64 (if Y1 (Nz pre) post≠0 then Y1 (Nz pre) post else X),bs):=by
 intro post
 induction post with
 | nil=>
  intro pre ρ hk h1 h20 h21 h22;simp only[List.append_nil]at hk;rw[← hk]at h22;rw[Qc F.f158l0.eq_1];simp[h1,h20,h21,h22,Y1];apply hX;simp[h1]
 | cons x post IH=>
  intro pre ρ hk h1 h20 h21 h22;have hg:=Qp hk;have hll:=Qx hk;have hw1:=wr1 pre.length (by omega);have hlt:=Qy hk;have hxm:=hm x (by rw[hk];simp);have hxb:x.mass < big:=by unfold big;omega
  have c1:=XW x bs hxb;have c2:=OR x bs hxm;have hh:=fun ρ=>IH (pre ++ [x]) ρ (by rw[hk];simp);rw[RL]at hh;rw[Qc F.f158l0.eq_1];by_cases e1:QF x=0
  ·by_cases e2:x.kind=2
   ·cases e3:ZK x
    ·rcases List.eq_nil_or_concat pre with rfl | ⟨pre2,q,rfl⟩
     ·have h22':ρ 22= .int .i64 0:=h22;have hg':f.s[0]? =some x:=hg;have hlt':0 < f.s.length:=by omega
      have hw0:IntKind.i64.wrap 1=1:=rfl;clear h22 hg hlt hw1;simp[-getElem?_pos,h1,h20,h21,h22',hg',hlt',hw0,c1,c2,e1,e2,e3,Y1,gtO,RM];simp only[ite_not]at hh;apply hh <;> simp[h1,h20,h21]
     ·simp only[List.concat_eq_append]at *;have hg2:f.s[pre2.length]? =some q:=by rw[hk];simp
      have hq:=hm q (by rw[hk];simp);have h4:=call_Compare q x bs (by unfold big;omega) hxb;have hp0: (0:Int) < (pre2.length:Int)+1:=by omega
      have hp1: (0:Int)≤(pre2.length:Int)+1:=by omega
      have hp2: ((pre2.length:Int)+1).toNat=pre2.length+1:=by omega
      have hw2:IntKind.i64.wrap (pre2.length:Int)=(pre2.length:Int):=ZG (by simp at hll;omega) (by simp at hll;omega);rw[RL];simp only[List.length_append,List.length_singleton,Int.natCast_add,Int.natCast_one]at h22 hg hlt hw1 hh;by_cases c6:Qm q x < 0
      ·have c6': ¬0≤Qm q x:=by omega
       simp[Qj,h1,h20,h21,h22,hg,hg2,hlt,hw1,hw2,hp0,hp1,hp2,h4,c1,c2,e1,e2,e3,c6,c6',Y1,gtO];simp only[ite_not]at hh;apply hh <;> simp[h1,h20,h21,Qj]
      ·have c6':0≤Qm q x:=by omega
       simp[Qj,h1,h20,h21,h22,hg,hg2,hlt,hw1,hw2,hp0,hp1,hp2,h4,c1,c2,e1,e2,e3,c6,c6',Y1,gtO]
    ·simp[h1,h20,h21,h22,hg,hlt,c1,c2,e1,e2,e3,Y1]
   ·simp[h1,h20,h21,h22,hg,hlt,c1,e1,e2,Y1]
  ·simp[h1,h20,h21,h22,hg,hlt,c1,e1,Y1]
structure FOk (f:Fr):Prop where
 s: ∀x∈f.s,x.mass < 1000000
 t: ∀x∈f.t,x.mass < 1000000
 sl:f.s.length < 1000000
 tl:f.t.length < 1000000
theorem OQ (f:Fr) (bs:List (List AV)) (h:FOk f):call F.tb 158 [.agg (Qj f)] bs=some (.int .i64 (QI f),bs):=by
 have ht:=fun ρ=>QgM f.t bs h.tl h.t f.t [] ρ rfl;have hX: ∀ρ:Nat→AV,ρ 1= .bx (Qj f)→R F.tb F.f158r1 ρ bs (Qt F.f158 bs)=some (.int .i64 (WS f.t),bs):=by
  intro ρ h1;simp[F.f158r1,h1,Qj];apply ht <;> simp
 have hs:=fun ρ=>Qgu f bs h.sl h.s (WS f.t) hX f.s [] ρ rfl;rw[RM]at hs;rw[Qb F.tb_158 _ _ rfl];by_cases c1:40 < f.s.length
 ·have c1': (40:Int) < (f.s.length:Int):=by omega
  simp[F.f158C,Qj,c1,c1',QI]
 ·have c1': ¬(40:Int) < (f.s.length:Int):=by omega
  by_cases c2:40 < f.t.length
  ·have c2': (40:Int) < (f.t.length:Int):=by omega
   simp[F.f158C,Qj,c1,c1',c2,c2',QI]
  ·have c2': ¬(40:Int) < (f.t.length:Int):=by omega
   have e:QI f=if Y1 none f.s≠0 then Y1 none f.s else WS f.t:=by simp[QI,c1,c2]
   rw[e];generalize (if Y1 none f.s≠0 then Y1 none f.s else WS f.t)=V at *;simp[F.f158C,Qj,c1',c2'];apply hs <;> simp[Qj]
theorem Qit (x:Tm) (bs:List (List AV)) (hm:x.mass < 1000000):call F.tb 233 [.agg (Qa x)] bs=some (.int .i64 (Y7 x),bs):=by
 have c1:=VC x bs (by unfold big;omega);have c2:=DM x bs (by omega);have c3:=Qiu x bs hm;rw[Qb F.tb_233 _ _ rfl];by_cases e1:thV x=0
 ·by_cases e2:Uj x=[]
  ·cases e3:UY x
   ·simp[F.f233C,c1,c2,c3,e1,e2,e3,Y7]
   ·simp[F.f233C,c1,c2,c3,e1,e2,e3,Y7]
  ·simp[F.f233C,c1,c2,e1,e2,Y7]
 ·simp[F.f233C,c1,e1,Y7]
theorem Qbg (f:Fr) (bs:List (List AV)) (h:FOk f): ∀(post pre:List Tm) (ρ:Nat→AV),f.t=pre ++ post→ρ 1= .bx (Qj f)→ρ 5= .int .i64 pre.length→
  R F.tb (.loop F.f230l1) ρ bs (Ql 2 (Qr F.tb F.f230r0 (Qt F.f230 bs)))=some (.int .i64 (WS post),bs):=by
 have hl:=h.tl;intro post
 induction post with
 | nil=>
  intro pre ρ hk h1 h5;simp only[List.append_nil]at hk;rw[← hk]at h5;rw[Qc F.f230l1.eq_1];simp[h1,h5,Qj,F.f230r0,WS]
 | cons x post IH=>
  intro pre ρ hk h1 h5;have hg:=Qp hk;have hll:=Qx hk;have hw1:=wr1 pre.length (by omega);have hlt:=Qy hk;have c1:=Qit x bs (h.t x (by rw[hk];simp));have hh:=fun ρ=>IH (pre ++ [x]) ρ (by rw[hk];simp);rw[Qc F.f230l1.eq_1];by_cases e1:Y7 x=0
  ·simp[h1,h5,Qj,hg,hlt,hw1,c1,e1,WS];apply hh <;> simp[h1,Qj]
  ·simp[h1,h5,Qj,hg,hlt,c1,e1,WS]
theorem Qbf (f:Fr) (bs:List (List AV)) (h:FOk f): ∀(post pre:List Tm) (ρ:Nat→AV),f.s=pre ++ post→ρ 1= .bx (Qj f)→ρ 3= .int .i64 pre.length→
  R F.tb (.loop F.f230l0) ρ bs (Ql 0 (Qr F.tb F.f230r1 (Qt F.f230 bs)))=some (.int .i64 (if Y1 (Nz pre) post≠0 then Y1 (Nz pre) post else WS f.t),bs):=by
 have hl:=h.sl;have ht:=fun ρ=>Qbg f bs h f.t [] ρ rfl;intro post
 induction post with
 | nil=>
  intro pre ρ hk h1 h3;simp only[List.append_nil]at hk;rw[← hk]at h3;rw[Qc F.f230l0.eq_1];simp[h1,h3,Qj,Y1,F.f230r1];apply ht <;> simp[h1,Qj]
 | cons x post IH=>
  intro pre ρ hk h1 h3;have hg:=Qp hk;have hll:=Qx hk;have hw1:=wr1 pre.length (by omega);have hlt:=Qy hk;have hxm:=h.s x (by rw[hk];simp);have hxb:x.mass < big:=by unfold big;omega
  have c1:=YQ x bs hxb;have c2:=OS x bs hxm;have hh:=fun ρ=>IH (pre ++ [x]) ρ (by rw[hk];simp);rw[RL]at hh;rw[Qc F.f230l0.eq_1];by_cases e1:QF x=0
  ·by_cases e2:x.kind=2
   ·cases e3:ZK x
    ·rcases List.eq_nil_or_concat pre with rfl | ⟨pre2,q,rfl⟩
     ·have h3':ρ 3= .int .i64 0:=h3;have hg':f.s[0]? =some x:=hg;have hlt':0 < f.s.length:=by omega
      have hw0:IntKind.i64.wrap 1=1:=rfl;clear h3 hg hlt hw1;simp[-getElem?_pos,Ya,List.getElem?_cons_succ,Qj,h1,h3',hg',hlt',hw0,c1,c2,e1,e2,e3,Y1,gtO,RM];simp only[ite_not]at hh;apply hh <;> simp[h1,Qj]
     ·simp only[List.concat_eq_append]at *;have hg2:f.s[pre2.length]? =some q:=by rw[hk];simp
      have hq:=h.s q (by rw[hk];simp);have h4:=Wr q x bs (by unfold big;omega) hxb;have hp0: (0:Int) < (pre2.length:Int)+1:=by omega
      have hp1: (0:Int)≤(pre2.length:Int)+1:=by omega
      have hp2: ((pre2.length:Int)+1).toNat=pre2.length+1:=by omega
      have hw2:IntKind.i64.wrap (pre2.length:Int)=(pre2.length:Int):=ZG (by simp at hll;omega) (by simp at hll;omega);rw[RL];simp only[List.length_append,List.length_singleton,Int.natCast_add,Int.natCast_one]at h3 hg hlt hw1 hh;by_cases c6:Qm q x < 0
      ·have c6': ¬0≤Qm q x:=by omega
       simp[Qj,h1,h3,hg,hg2,hlt,hw1,hw2,hp0,hp1,hp2,h4,c1,c2,e1,e2,e3,c6,c6',Y1,gtO];simp only[ite_not]at hh;apply hh <;> simp[h1,Qj]
      ·have c6':0≤Qm q x:=by omega
       simp[Qj,h1,h3,hg,hg2,hlt,hw1,hw2,hp0,hp1,hp2,h4,c1,c2,e1,e2,e3,c6,c6',Y1,gtO]
    ·simp[h1,h3,Qj,hg,hlt,c1,c2,e1,e2,e3,Y1]
   ·simp[h1,h3,Qj,hg,hlt,c1,e1,e2,Y1]
  ·simp[h1,h3,Qj,hg,hlt,c1,e1,Y1]
theorem Ll (f:Fr) (bs:List (List AV)) (h:FOk f):call F.tb 230 [.agg (Qj f)] bs=some (.int .i64 (QI f),bs):=by
 have hs:=fun ρ=>Qbf f bs h f.s [] ρ rfl;rw[RM]at hs;rw[Qb F.tb_230 _ _ rfl];by_cases c1:40 < f.s.length
 ·have c1': (40:Int) < (f.s.length:Int):=by omega
  simp[F.f230C,Qj,c1,c1',QI]
 ·have c1': ¬(40:Int) < (f.s.length:Int):=by omega
  by_cases c2:40 < f.t.length
  ·have c2': (40:Int) < (f.t.length:Int):=by omega
   simp[F.f230C,Qj,c1,c1',c2,c2',QI]
  ·have c2': ¬(40:Int) < (f.t.length:Int):=by omega
   have e:QI f=if Y1 none f.s≠0 then Y1 none f.s else WS f.t:=by simp[QI,c1,c2]
   rw[e];generalize (if Y1 none f.s≠0 then Y1 none f.s else WS f.t)=V at *;simp[F.f230C,Qj,c1',c2'];apply hs <;> simp[Qj]
theorem Bc (x y:Tm) (bs:List (List AV)) (hx:x.mass < big) (hy:y.mass < big):call F.tb 213 [.agg (Qa x),.agg (Qa y)] bs=some (.bool (decide (Qm x y=0)),bs):=by
 have h:=call_Compare x y bs hx hy;rw[Qb F.tb_213 _ _ rfl];simp[F.f213C,h]
theorem Bb (x y:Tm) (g:Nat) (bs:List (List AV)) (hg:bs[g]? =some (Qa y)) (hx:x.mass < big) (hy:y.mass < big):call F.tb 212 [.agg (Qa x),.gp g 0] bs=some (.bool (decide (Qm x y=0)),bs):=by
 have h:=Bc x y bs hx hy;rw[Qb F.tb_212 _ _ rfl];simp[-getElem?_pos,F.f212C,hg,h]
def eqB (y x:Tm):Bool:=decide (Qm x y=0)
theorem QfY (l:List Tm) (y:Tm) (g:Nat) (bs:List (List AV)) (hg:bs[g]? =some (Qa y)) (hl:l.length < 1000000) (hm: ∀x∈l,x.mass < big) (hy:y.mass < big):
  ∀(post pre:List Tm) (o:Bool) (ρ:Nat→AV),l=pre ++ post→pre.any (eqB y)=false→ρ 0= .sl o 4 (encTs l)→ρ 1= .fn 212 [.gp g 0]→ρ 7= .int .i64 l.length→ρ 8= .int .i64 pre.length→
  TR (l.any (eqB y)) bs (R F.tb (.loop F.f215l0) ρ bs (Ql 0 (Qr F.tb F.f215r0 (Qt F.f215 bs)))):=by
 intro post
 induction post with
 | nil=>
  intro pre o ρ hk hp h0 h1 h7 h8;simp only[List.append_nil]at hk;rw[← hk]at h8 hp;rw[Qc F.f215l0.eq_1];refine⟨-1,?_,by rw[hp];simp⟩;simp[h0,h1,h7,h8,F.f215r0]
 | cons x post IH=>
  intro pre o ρ hk hp h0 h1 h7 h8;have hgt:=Qp hk;have hll:=Qx hk;have hw1:=wr1 pre.length (by omega);have hlt:=Qy hk;have hcall:=Bb x y g bs hg (hm x (by rw[hk];simp)) hy;have ih:=fun ρ hpp=>IH (pre ++ [x]) o ρ (by rw[hk];simp) hpp;rw[Qc F.f215l0.eq_1];by_cases ho:Qm x y=0
  ·have hany:l.any (eqB y)=true:=List.any_eq_true.2 ⟨x,by rw[hk];simp,by simp[eqB,ho]⟩;refine⟨pre.length,?_,by rw[hany];simp⟩;simp[h0,h1,h7,h8,hlt,hgt,hcall,ho]
  ·have ih2:=fun ρ=>ih ρ (by rw[List.any_append,hp];simp[eqB,ho]);simp[h0,h1,h7,h8,hlt,hgt,hw1,hcall,ho,-List.any_eq_false,-List.any_eq_true];apply ih2 <;> simp[h0,h1,h7]
theorem Ba (l:List Tm) (y:Tm) (o:Bool) (bs:List (List AV)) (hl:l.length < 1000000) (hm: ∀x∈l,x.mass < big) (hy:y.mass < big):
  call F.tb 211 [.sl o 4 (encTs l),.agg (Qa y)] bs=some (.bool (l.any (eqB y)),bs):=by
 have hg: (bs ++ [Qa y])[bs.length]? =some (Qa y):=List.getElem?_concat_length;have h1:=fun ρ=>QfY l y bs.length (bs ++ [Qa y]) hg hl hm hy l [] false ρ rfl rfl;have h2:TR (l.any (eqB y)) (bs ++ [Qa y]) (call F.tb 215 [.sl false 4 (encTs l),.fn 212 [.gp bs.length 0]] (bs ++ [Qa y])):=by
  rw[Qb F.tb_215 _ _ rfl];simp[F.f215C,-List.any_eq_false,-List.any_eq_true];apply h1 <;> simp
 obtain⟨i,hi,hb⟩:=h2;have htk: (bs ++ [Qa y]).take (bs.length+1)=bs ++ [Qa y]:=List.take_of_length_le (by simp);have h3:call F.tb 214 [.sl false 4 (encTs l),.fn 212 [.gp bs.length 0]] (bs ++ [Qa y])=some (.bool (l.any (eqB y)),bs ++ [Qa y]):=by
  rw[Qb F.tb_214 _ _ rfl];simp[F.f214C,hi,htk,-List.any_eq_false,-List.any_eq_true];cases hx:l.any (eqB y)
  ·rw[hx]at hb;simp at hb;simpa using hb
  ·rw[hx]at hb;simp at hb;simpa using hb
 rw[Qb F.tb_211 _ _ rfl];simp[F.f211C,h3,-List.any_eq_false,-List.any_eq_true]
def TS (B0 B:List (List AV)) (v:AV) (l:List Tm):Prop:=∃(M:List (List AV)) (id sz:Nat),B=B0 ++ M∧v= .gs id 0 sz l.length∧
 ((sz=0∧id=0∧l=[])∨(sz=4∧B0.length≤id∧l≠[]∧B[id]? =some (Qu l)))
theorem RU {B0 B:List (List AV)} {v:AV} {l:List Tm} (h:TS B0 B v l): ∃id sz,v= .gs id 0 sz l.length:=by
 obtain⟨M,id,sz,_,rfl,_⟩:=h;exact⟨id,sz,rfl⟩
theorem QeI (B0:List (List AV)):TS B0 B0 (.gs 0 0 0 0) []:=⟨[],0,0,by simp,rfl,.inl ⟨rfl,rfl,rfl⟩⟩
theorem QfW {B:List (List AV)} {id sz:Nat} (l:List Tm) (y:Tm) (g:Nat) (hb:l≠[]→sz=4∧B[id]? =some (Qu l)) (hg:B[g]? =some (Qa y)) (hl:l.length < 1000000) (hm: ∀x∈l,x.mass < big) (hy:y.mass < big):
  ∀(post pre:List Tm) (ρ:Nat→AV),l=pre ++ post→pre.any (eqB y)=false→ρ 0= .gs id 0 sz l.length→ρ 1= .fn 212 [.gp g 0]→ρ 7= .int .i64 l.length→ρ 8= .int .i64 pre.length→
  TR (l.any (eqB y)) B (R F.tb (.loop F.f218l0) ρ B (Ql 0 (Qr F.tb F.f218r0 (Qt F.f218 B)))):=by
 intro post
 induction post with
 | nil=>
  intro pre ρ hk hp h0 h1 h7 h8;simp only[List.append_nil]at hk;rw[← hk]at h8 hp;rw[Qc F.f218l0.eq_1];refine⟨-1,?_,by rw[hp];simp⟩;simp[h0,h1,h7,h8,F.f218r0]
 | cons x post IH=>
  intro pre ρ hk hp h0 h1 h7 h8;have hgt:=Qp hk;have hll:=Qx hk;have hw1:=wr1 pre.length (by omega);have hlt:=Qy hk;have hlt':pre.length < l.length:=by omega
  obtain⟨rfl,hbx⟩:=hb (by intro e;rw[e]at hlt';simp at hlt');have r1: (((Qu l).map AV.strip).drop (pre.length*4)).take 4=Qa x:=by
   have:=Ue (f:=Qa) (k:=4) QR hk [];rw[List.append_nil]at this;rw[Z6 Zu];exact this
  have hle:pre.length*4+4≤(Qu l).length:=by rw[Z2 QR];omega
  have hcall:=Bb x y g B hg (hm x (by rw[hk];simp)) hy;have ih:=fun ρ hpp=>IH (pre ++ [x]) ρ (by rw[hk];simp) hpp;generalize Qu l=c at *;rw[Qc F.f218l0.eq_1];by_cases ho:Qm x y=0
  ·have hany:l.any (eqB y)=true:=List.any_eq_true.2 ⟨x,by rw[hk];simp,by simp[eqB,ho]⟩;refine⟨pre.length,?_,by rw[hany];simp⟩;simp[-getElem?_pos,h0,h1,h7,h8,hlt,hlt',hbx,hle,r1,hcall,ho]
  ·have ih2:=fun ρ=>ih ρ (by rw[List.any_append,hp];simp[eqB,ho]);simp[-getElem?_pos,h0,h1,h7,h8,hlt,hlt',hw1,hbx,hle,r1,hcall,ho,-List.any_eq_false,-List.any_eq_true];apply ih2 <;> simp[h0,h1,h7]
theorem Qik {B0 B:List (List AV)} {v:AV} {l:List Tm} (h:TS B0 B v l) (y:Tm) (hl:l.length < 1000000) (hm: ∀x∈l,x.mass < big) (hy:y.mass < big):
  call F.tb 216 [v,.agg (Qa y)] B=some (.bool (l.any (eqB y)),B):=by
 obtain⟨M,id,sz,rfl,rfl,hc⟩:=h;have hg: ((B0 ++ M)++ [Qa y])[(B0 ++ M).length]? =some (Qa y):=List.getElem?_concat_length;have hb:l≠[]→sz=4∧((B0 ++ M)++ [Qa y])[id]? =some (Qu l):=by
  intro hne;rcases hc with⟨_,_,rfl⟩ | ⟨h1,_,_,h2⟩
  ·exact absurd rfl hne
  ·refine⟨h1,?_⟩;rw[List.getElem?_append_left (VG h2),h2]
 generalize B0 ++ M=B at *;have h1:=fun ρ=>QfW l y B.length hb hg hl hm hy l [] ρ rfl rfl;have h2:TR (l.any (eqB y)) (B ++ [Qa y]) (call F.tb 218 [.gs id 0 sz l.length,.fn 212 [.gp B.length 0]] (B ++ [Qa y])):=by
  rw[Qb F.tb_218 _ _ rfl];simp[F.f218C,-List.any_eq_false,-List.any_eq_true];apply h1 <;> simp
 obtain⟨i,hi,hb2⟩:=h2;have htk: (B ++ [Qa y]).take (B.length+1)=B ++ [Qa y]:=List.take_of_length_le (by simp);have h3:call F.tb 217 [.gs id 0 sz l.length,.fn 212 [.gp B.length 0]] (B ++ [Qa y])=some (.bool (l.any (eqB y)),B ++ [Qa y]):=by
  rw[Qb F.tb_217 _ _ rfl];simp[F.f217C,hi,htk,-List.any_eq_false,-List.any_eq_true];cases hx:l.any (eqB y)
  ·rw[hx]at hb2;simp at hb2;simpa using hb2
  ·rw[hx]at hb2;simp at hb2;simpa using hb2
 rw[Qb F.tb_216 _ _ rfl];simp[F.f216C,h3,-List.any_eq_false,-List.any_eq_true]
theorem C8 (t:Tm) (bs:List (List AV)) (hm:t.mass < big):call F.tb 208 [.agg (Qa t)] bs=some (.agg (Qa t),bs):=by
 have h:=F4 t bs hm true;rw[Qb F.tb_208 _ _ rfl];simp[F.f208C,h]
def NB (sec acc:List Tm) (x:Tm):Bool:= !ZK x && !sec.any (eqB x) && !acc.any (eqB x)
def Xn (sec:List Tm):List Tm→List Tm→List Tm
 | acc,[]=>acc
 | acc,x:: r=>Xn sec (if NB sec acc x then acc ++ [x]else acc) r
def VY (sec:List Tm):List Tm→List Tm→List Tm
 | acc,[]=>acc
 | acc,t:: r=>VY sec (Xn sec acc (YB t)) r
theorem MB (sec:List Tm): ∀(l acc:List Tm),(Xn sec acc l).length≤acc.length+l.length
 | [],acc=>by simp[Xn]
 | x:: r,acc=>by
  have h:=MB sec r (if NB sec acc x then acc ++ [x]else acc);simp only[Xn,List.length_cons];split at h
  ·rename_i c;simp only[c,if_true];simp only[List.length_append,List.length_singleton]at h;omega
  ·rename_i c;simp only[c];simp only[Bool.false_eq_true,if_false];omega
theorem Hk {sec:List Tm}: ∀{l acc:List Tm} {y:Tm},y∈Xn sec acc l→y∈acc∨y∈l
 | [],acc,y,h=> .inl h
 | x:: r,acc,y,h=>by
  simp only[Xn]at h;rcases Hk h with h | h
  ·split at h
   ·rcases List.mem_append.1 h with h | h
    ·exact .inl h
    ·simp at h;exact .inr (by simp[h])
   ·exact .inl h
  ·exact .inr (by simp[h])
theorem Dz {B0 B:List (List AV)} {v:AV} {l:List Tm} (x:Tm) (o:Bool) (h:TS B0 B v l) (hl:l.length < 1000000): ∃v' B',appM 56 4 v (.sl o 4 [Qa x]) B=some (v',B')∧TS B0 B' v' (l ++ [x]):=by
 obtain⟨M,id,sz,rfl,rfl,hc⟩:=h;have hb: (l.length+1)*56≤140737488355328:=Yi (by omega);have hs:Xp 4 (.sl o 4 [Qa x]) (B0 ++ M)=some (1,Qa x):=by simp[Xp]
 rcases hc with⟨rfl,rfl,rfl⟩ | ⟨rfl,hid,hne0,hbx⟩
 ·refine⟨.gs (B0 ++ M).length 0 4 1,B0 ++ (M ++ [Qa x]),?_,M ++ [Qa x],(B0 ++ M).length,4,rfl,rfl,.inr ⟨rfl,by simp,by simp,?_⟩⟩
  ·simp[appM,hs]
  ·rw[← List.append_assoc,List.getElem?_concat_length];simp[Qu,ZP]
 ·have hr: (Qu l).length=l.length*4:=Z2 QR l;have hrow:Qu (l ++ [x])=Qu l ++ Qa x:=by simp[Qu,X9,S0]
  have hst: (Qu l).map AV.strip=Qu l:=Z6 Zu l;have hne:Qu l≠[]:=by
   intro e;rw[e]at hr;simp at hr
   exact hne0 (List.eq_nil_of_length_eq_zero (by omega))
  have hroom: ¬(l.length+1)*4≤(Qu l).length:=by omega
  refine⟨.gs (B0 ++ M).length 0 4 (l.length+1),(B0 ++ M).set id []++ [Qu l ++ Qa x],?_,M.set (id - B0.length) []++ [Qu l ++ Qa x],(B0 ++ M).length,4,?_,by simp,.inr ⟨rfl,by simp,by simp,?_⟩⟩
  ·simp only[appM,hs,Option.bind_some];rw[if_pos ⟨by omega,hb⟩,if_neg (by omega),if_neg (by omega),if_pos ⟨trivial,trivial⟩,hbx];simp only[Option.bind_some];rw[if_pos ⟨hne,by omega⟩,if_neg hroom,List.take_of_length_le (by omega),hst]
  ·rw[Y2 hid,List.append_assoc]
  ·have e: (B0 ++ M).length=((B0 ++ M).set id []).length:=by simp
   rw[hrow,e,List.getElem?_concat_length]
theorem QjP (f:Fr) (hf:FOk f) (B0:List (List AV)) (A:List Tm) (hA: ∀x∈A,x.mass < 1000000) (hAl:A.length < 1000000) (c:AC) (K:Kn) (X:Out):
  ∀(post pre acc:List Tm) (B:List (List AV)) (v:AV) (o:Bool) (ρ:Nat→AV),A=pre ++ post→TS B0 B v acc→acc.length+post.length < 1000000→(∀x∈acc,x.mass < 1000000)→
   ρ 1= .bx (Qj f)→ρ 3=v→ρ 16= .sl o 4 (encTs A)→ρ 17= .int .i64 A.length→ρ 18= .int .i64 pre.length→
   (∀(ρ':Nat→AV) (B':List (List AV)) (v':AV),TS B0 B' v' (Xn f.s acc post)→ρ' 3=v'→(∀j,j < 12→j≠3→j≠7→ρ' j=ρ j)→R F.tb c ρ' B' K=X)→
  R F.tb (.loop F.f209l0) ρ B (Ql 2 (Ql 1 (Qr F.tb c K)))=X:=by
 intro post
 induction post with
 | nil=>
  intro pre acc B v o ρ hk hts hal ham h1 h3 h16 h17 h18 h;simp only[List.append_nil]at hk;rw[← hk]at h18;rw[Qc F.f209l0.eq_1];simp[h1,h16,h17,h18];refine h _ B v hts ?_ ?_
  ·simp[h3]
  ·intro j hj h3j h7j;have:j≠19:=by omega
   simp[this]
 | cons x post IH=>
  intro pre acc B v o ρ hk hts hal ham h1 h3 h16 h17 h18 h;have hg:=Qp hk;have hll:=Qx hk;have hw1:=wr1 pre.length (by omega);have hlt:=Qy hk;have hxm:=hA x (by rw[hk];simp);have hxb:x.mass < big:=by unfold big;omega
  simp only[List.length_cons]at hal;have c1:=OR x B hxm;have c2:=Ba f.s x false B hf.sl (fun y hy=>by have:=hf.s y hy;unfold big;omega) hxb;have c3:=Qik hts x (by omega) (fun y hy=>by have:=ham y hy;unfold big;omega) hxb;obtain⟨id,sz,rfl⟩:=RU hts;have hfr: ∀(ρ2:Nat→AV) (j:Nat),j < 12→j≠3→j≠7→(∀i,ρ2 i=ρ2 i):=fun _ _ _ _ _ _=>rfl;have hjn: ∀j:Nat,j < 12→j≠18∧j≠19∧j≠20∧j≠21∧j≠22∧j≠23∧j≠24∧j≠25∧j≠26∧j≠27∧j≠28∧j≠29∧j≠30∧j≠31∧j≠32∧j≠33∧j≠34∧j≠35∧j≠36∧j≠37∧j≠38∧j≠39∧j≠40∧j≠41∧j≠42:=fun j hj=>by omega
  rw[Qc F.f209l0.eq_1];cases hn:NB f.s acc x
  ·have e:Xn f.s acc (x:: post)=Xn f.s acc post:=by simp[Xn,hn]
   have hi:=fun ρ2 h2=>IH (pre ++ [x]) acc B _ o ρ2 (by rw[hk];simp) hts (by omega) ham h2;have key: ∀ρ2:Nat→AV,ρ2 1= .bx (Qj f)→ρ2 3= .gs id 0 sz acc.length→ρ2 16= .sl o 4 (encTs A)→ρ2 17= .int .i64 A.length→ρ2 18= .int .i64 ((pre ++ [x]).length:Nat)→(∀j,j < 12→j≠3→j≠7→ρ2 j=ρ j)→
     R F.tb (.loop F.f209l0) ρ2 B (Ql 2 (Ql 1 (Qr F.tb c K)))=X:=by
    intro ρ2 a1 a3 a16 a17 a18 aj;refine hi ρ2 a1 a3 a16 a17 a18 fun ρ' B' v' t1 t2 t3=>h ρ' B' v' (by rw[e];exact t1) t2 fun j j1 j2 j3=> ?_;rw[t3 j j1 j2 j3,aj j j1 j2 j3]
   unfold NB at hn;cases p1:ZK x
   ·rw[p1]at c1 hn;cases p2:f.s.any (eqB x)
    ·rw[p2]at c2 hn;have p3:acc.any (eqB x)=true:=by simpa using hn
     rw[p3]at c3;simp[Qj,h1,h3,h16,h17,h18,hg,hlt,hw1,c1,c2,c3];refine key _ ?_ ?_ ?_ ?_ ?_ ?_
     all_goals first | (intro j j1 j2 j3;have:=hjn j j1;simp[this,j3];done) | simp[Qj,h1,h3,h16,h17]
    ·rw[p2]at c2;simp[Qj,h1,h3,h16,h17,h18,hg,hlt,hw1,c1,c2];refine key _ ?_ ?_ ?_ ?_ ?_ ?_
     all_goals first | (intro j j1 j2 j3;have:=hjn j j1;simp[this,j3];done) | simp[Qj,h1,h3,h16,h17]
   ·rw[p1]at c1;simp[Qj,h1,h3,h16,h17,h18,hg,hlt,hw1,c1];refine key _ ?_ ?_ ?_ ?_ ?_ ?_
    all_goals first | (intro j j1 j2 j3;have:=hjn j j1;simp[this,j3];done) | simp[Qj,h1,h3,h16,h17]
  ·have e:Xn f.s acc (x:: post)=Xn f.s (acc ++ [x]) post:=by simp[Xn,hn]
   obtain⟨v2,B2,ha,hts2⟩:=Dz x false hts (by omega);have hi:=fun ρ2 h2=>IH (pre ++ [x]) (acc ++ [x]) B2 v2 o ρ2 (by rw[hk];simp) hts2 (by simp;omega) (fun y hy=>by
    rcases List.mem_append.1 hy with hy | hy
    ·exact ham y hy
    ·simp at hy;subst hy;exact hxm) h2
   have key: ∀ρ2:Nat→AV,ρ2 1= .bx (Qj f)→ρ2 3=v2→ρ2 16= .sl o 4 (encTs A)→ρ2 17= .int .i64 A.length→ρ2 18= .int .i64 ((pre ++ [x]).length:Nat)→(∀j,j < 12→j≠3→j≠7→ρ2 j=ρ j)→
     R F.tb (.loop F.f209l0) ρ2 B2 (Ql 2 (Ql 1 (Qr F.tb c K)))=X:=by
    intro ρ2 a1 a3 a16 a17 a18 aj;refine hi ρ2 a1 a3 a16 a17 a18 fun ρ' B' v' t1 t2 t3=>h ρ' B' v' (by rw[e];exact t1) t2 fun j j1 j2 j3=> ?_;rw[t3 j j1 j2 j3,aj j j1 j2 j3]
   obtain⟨id2,sz2,rfl⟩:=RU hts2;unfold NB at hn;simp only[Bool.and_eq_true,Bool.not_eq_true']at hn;obtain⟨⟨p1,p2⟩,p3⟩:=hn;rw[p1]at c1;rw[p2]at c2;rw[p3]at c3;simp[Qj,h1,h3,h16,h17,h18,hg,hlt,hw1,c1,c2,c3,ha];refine key _ ?_ ?_ ?_ ?_ ?_ ?_
   all_goals first | (intro j j1 j2 j3;have:=hjn j j1;simp[this,j2,j3];done) | simp[Qj,h1,h3,h16,h17]
theorem Ng (t:Tm): (YB t).length≤t.nodes:=by
 have h1:=NJ ((QY t).filter (Yl 2));have h2:=List.length_filter_le (Yl 2) (QY t);rw[Wd]at h2;unfold YB;omega
theorem T9 {x t:Tm}:x∈YB t↔x∈QY t∧x.kind=2:=by
 unfold YB;rw[VJ,List.mem_filter];simp[Yl]
theorem DK {x t:Tm} (h:x∈YB t):x.mass≤t.mass:=X4 t x (T9.1 h).1
theorem HA (sec:List Tm): ∀(l acc:List Tm),(VY sec acc l).length≤acc.length+nodesL l
 | [],acc=>by simp[VY]
 | t:: r,acc=>by
  have h1:=HA sec r (Xn sec acc (YB t));have h2:=MB sec (YB t) acc;have h3:=Ng t;simp only[VY,nodesL];omega
theorem IR {B0 B:List (List AV)} {v:AV} {l:List Tm} (h:TS B0 B v l) (hl:l.length < 1000000) (hm: ∀x∈l,x.mass < 1000000):
  ∃B',call F.tb 170 [v,.fn 30 []] B=some (.tup [],B')∧TS B0 B' v (ZF l):=by
 obtain⟨M,id,sz,rfl,rfl,hc⟩:=h;rcases hc with⟨rfl,rfl,rfl⟩ | ⟨rfl,hid,hne,hb⟩
 ·refine⟨B0 ++ M,?_,M,0,0,rfl,rfl,.inl ⟨rfl,rfl,rfl⟩⟩;rw[Xv F.tb_170];simp[NL]
 ·have hs:=I5 l (B0 ++ M) id hb (by omega) fun x hx=>by have:=hm x hx;unfold big;omega
  refine⟨_,hs,M.set (id - B0.length) (Qu (ZF l)),id,4,Y2 hid _,by rw[Xj],.inr ⟨rfl,hid,?_,?_⟩⟩
  ·intro e;obtain⟨x,hx⟩:=List.exists_mem_of_ne_nil l hne;have:=(X7 (l:=l)).2 hx;rw[e]at this;simp at this
  ·have hlt:=VG hb;rw[List.getElem?_set,if_pos rfl,if_pos hlt]
theorem QeH {B0 B:List (List AV)} {v:AV} {l:List Tm} (h:TS B0 B v l) (n:Nat): ∃M2,∀ρ:Nat→AV,ρ n=v→Ys {env:=ρ,bs:=B} n 4=some (.sl true 4 (encTs l),{env:=upd ρ n .undef,bs:=B0 ++ M2}):=by
 obtain⟨M,id,sz,rfl,rfl,hc⟩:=h;rcases hc with⟨rfl,rfl,rfl⟩ | ⟨rfl,hid,hne,hb⟩
 ·exact⟨M,fun ρ hn=>by simp[Ys,hn,encTs]⟩
 ·refine⟨M.set (id - B0.length) [],fun ρ hn=> ?_⟩;have hz: ¬l.length=0:=fun e=>hne (List.eq_nil_of_length_eq_zero e);have hr: (Qu l).length=l.length*4:=Z2 QR l;have hch:Yc (Qu l) 0 4 l.length=encTs l:=by
   have:=XH (f:=Qa) (k:=4) QR Zu l [];rw[List.append_nil,Ut]at this;exact this
  simp only[Ys,hn];rw[if_pos ⟨trivial,by omega⟩,if_neg hz,hb];simp only[Option.bind_some];rw[if_pos (by omega),hch,Y2 hid];rfl
theorem QjR {B0 B:List (List AV)} {v:AV} {l:List Tm} (h:TS B0 B v l) (hl:l.length < 1000000) (hm: ∀x∈l,x.mass < 1000000) (ρ:Nat→AV) (h3:ρ 3=v):
  R F.tb F.f209r1 ρ B (Qt F.f209 B0)=some (.sl true 4 (encTs (ZF l)),B0):=by
 obtain⟨B',hs,hts⟩:=IR h hl hm;obtain⟨M2,hf⟩:=QeH hts 46;obtain⟨id,sz,rfl⟩:=RU h;have hg:=encTs_gp (ZF l);rw[← Xj l]at hs hf h3;simp[F.f209r1,h3,hs,hf]
theorem QjQ (f:Fr) (hf:FOk f) (B0:List (List AV)) (hM:massL f.t < 1000000):
  ∀(post pre acc:List Tm) (B:List (List AV)) (v:AV) (o:Bool) (ρ:Nat→AV),f.t=pre ++ post→TS B0 B v acc→acc.length+nodesL post < 1000000→(∀x∈acc,x.mass < 1000000)→
   ρ 1= .bx (Qj f)→ρ 3=v→ρ 9= .sl o 4 (encTs f.t)→ρ 10= .int .i64 f.t.length→ρ 11= .int .i64 pre.length→
  R F.tb (.loop F.f209l1) ρ B (Ql 0 (Qr F.tb F.f209r1 (Qt F.f209 B0)))=some (.sl true 4 (encTs (ZF (VY f.s acc post))),B0):=by
 have htl:=hf.tl;intro post
 induction post with
 | nil=>
  intro pre acc B v o ρ hk hts hal ham h1 h3 h9 h10 h11;simp only[List.append_nil]at hk;rw[← hk]at h11;have hr:=QjR hts (by simp[nodesL]at hal;omega) ham;rw[Qc F.f209l1.eq_1];simp[h1,h9,h10,h11,VY];apply hr;simp[h3]
 | cons x post IH=>
  intro pre acc B v o ρ hk hts hal ham h1 h3 h9 h10 h11;have hg:=Qp hk;have hll:=Qx hk;have hw1:=wr1 pre.length (by omega);have hlt:=Qy hk;have hxm:=hf.t x (by rw[hk];simp);have hnm:=Zm x;simp only[nodesL]at hal;have hat:=Ng x;have c1:=KW x B (by omega);have hfl:=MB f.s (YB x) acc;have e:VY f.s acc (x:: post)=VY f.s (Xn f.s acc (YB x)) post:=rfl;rw[e];have hAm: ∀y∈YB x,y.mass < 1000000:=fun y hy=>by have:=DK hy;omega
  rw[Qc F.f209l1.eq_1];simp[h1,h9,h10,h11,hg,hlt,c1];refine QjP f hf B0 (YB x) hAm (by omega) _ _ _ (YB x) [] acc B v true _ rfl hts (by omega) ham ?_ ?_ ?_ ?_ ?_ ?_
  ·simp[h1]
  ·simp[h3]
  ·simp
  ·simp
  ·simp
  ·intro ρ' B' v' t1 t2 t3;have g1:ρ' 1=_:=t3 1 (by omega) (by omega) (by omega);have g9:ρ' 9=_:=t3 9 (by omega) (by omega) (by omega);have g10:ρ' 10=_:=t3 10 (by omega) (by omega) (by omega);have g11:ρ' 11=_:=t3 11 (by omega) (by omega) (by omega);simp[h1,h9,h10,h11]at g1 g9 g10 g11;have hi:=fun ρ2=>IH (pre ++ [x]) (Xn f.s acc (YB x)) B' v' o ρ2 (by rw[hk];simp) t1 (by omega) (fun y hy=>by
    rcases Hk hy with hy | hy
    ·exact ham y hy
    ·exact hAm y hy)
   simp[F.f209r0,g11,hw1];apply hi <;> simp[g1,t2,g9,g10]
def Q0 (f:Fr):List Tm:=ZF (VY f.s [] f.t)
theorem C9 (f:Fr) (hf:FOk f) (hM:massL f.t < 1000000) (bs:List (List AV)):call F.tb 209 [.agg (Qj f)] bs=some (.sl true 4 (encTs (Q0 f)),bs):=by
 have hn:=nodesL_le_mass f.t;have h:=fun ρ=>QjQ f hf bs hM f.t [] [] bs (.gs 0 0 0 0) false ρ rfl (QeI bs) (by simp;omega) (by simp);rw[Qb F.tb_209 _ _ rfl];simp[F.f209C,Qj];apply h <;> simp[Qj]
def Xe (sec:List Tm) (x:Tm):Bool:=decide (x.kind=2) && !ZK x && !ZZ sec x
theorem Au (f:Fr) (hf:FOk f) (L:List Tm) (bs:List (List AV)) (hL:L.length < 1000000) (hm: ∀x∈L,x.mass < 1000000):
  ∀(post pre acc:List Tm) (o:Bool) (ρ:Nat→AV),L=pre ++ post→acc.length+post.length < 1000000→ρ 1= .bx (Qj f)→ρ 3= .sl true 4 (encTs acc)→ρ 4= .sl o 4 (encTs L)→ρ 5= .int .i64 pre.length→
  R F.tb (.loop F.f264l0) ρ bs (Ql 0 (Qr F.tb F.f264r0 (Qt F.f264 bs)))=some (.sl false 4 (encTs (acc ++ post.filter (Xe f.s))),bs):=by
 intro post
 induction post with
 | nil=>
  intro pre acc o ρ hk ha h1 h3 h4 h5;simp only[List.append_nil]at hk;rw[← hk]at h5;rw[Qc F.f264l0.eq_1];simp[h1,h3,h4,h5,F.f264r0]
 | cons x post IH=>
  intro pre acc o ρ hk ha h1 h3 h4 h5;have hg:=Qp hk;have hll:=Qx hk;have hw1:=wr1 pre.length (by omega);have hlt:=Qy hk;have hxm:=hm x (by rw[hk];simp);have c1:=OS x bs hxm;have hsl:=hf.sl;have c2:=S6 f.s x false bs (by omega) (fun y hy=>by have:=hf.s y hy;unfold big;omega) (by unfold big;omega);simp only[List.length_cons]at ha;have hb: (acc.length+1)*56≤140737488355328:=Yi (by omega);have h2:=fun ρ=>IH (pre ++ [x]) acc o ρ (by rw[hk];simp) (by omega);have h2':=fun ρ=>IH (pre ++ [x]) (acc ++ [x]) o ρ (by rw[hk];simp) (by simp;omega);simp only[List.append_assoc,List.cons_append,List.nil_append]at h2';rw[Qc F.f264l0.eq_1];by_cases e1:x.kind=2
  ·cases e2:ZK x
   ·cases e3:ZZ f.s x
    ·have e: (x:: post).filter (Xe f.s)=x:: post.filter (Xe f.s):=by simp[Xe,e1,e2,e3]
     rw[e];generalize post.filter (Xe f.s)=P at *;simp[Qj,h1,h3,h4,h5,hg,hlt,hw1,c1,c2,e1,e2,e3,hb,Q7,QP];apply h2' <;> simp[h1,Qj,h4]
    ·have e: (x:: post).filter (Xe f.s)=post.filter (Xe f.s):=by simp[Xe,e1,e2,e3]
     rw[e];generalize post.filter (Xe f.s)=P at *;simp[Qj,h1,h3,h4,h5,hg,hlt,hw1,c1,c2,e1,e2,e3];apply h2 <;> simp[h1,h3,Qj,h4]
   ·have e: (x:: post).filter (Xe f.s)=post.filter (Xe f.s):=by simp[Xe,e1,e2]
    rw[e];generalize post.filter (Xe f.s)=P at *;simp[Qj,h1,h3,h4,h5,hg,hlt,hw1,c1,e1,e2];apply h2 <;> simp[h1,h3,Qj,h4]
  ·have e: (x:: post).filter (Xe f.s)=post.filter (Xe f.s):=by simp[Xe,e1]
   rw[e];generalize post.filter (Xe f.s)=P at *;simp[Qj,h1,h3,h4,h5,hg,hlt,hw1,e1];apply h2 <;> simp[h1,h3,Qj,h4]
theorem L0 {sec:List Tm}: ∀{l acc:List Tm},acc.Nodup→(Xn sec acc l).Nodup
 | [],acc,h=>h
 | x:: r,acc,h=>by
  simp only[Xn];apply L0;split
  ·rename_i hn;simp only[NB,Bool.and_eq_true,Bool.not_eq_true']at hn;have h3:x ∉ acc:=by
    intro hx;have:acc.any (eqB x)=true:=List.any_eq_true.2 ⟨x,hx,by simp[eqB,Yn]⟩;rw[hn.2]at this;cases this
   rw[List.nodup_append];exact⟨h,by simp,fun a ha b hb=>by simp at hb;subst hb;intro e;subst e;exact h3 ha⟩
  ·exact h
theorem R7 {sec:List Tm}: ∀{l acc:List Tm},acc.Nodup→(VY sec acc l).Nodup
 | [],acc,h=>h
 | t:: r,acc,h=>R7 (l:=r) (L0 h)
theorem FY {t:Tm}: ∀{l:List Tm},Asc l→t ∉ l→Asc (VH t l)
 | [],_,_=>Lj t
 | x:: xs,h,hn=>by
  obtain⟨h1,h2⟩:=Yp.1 h;simp only[List.mem_cons,not_or]at hn;simp only[VH];split
  ·rename_i c;refine Yp.2 ⟨fun y hy=> ?_,FY h2 hn.2⟩;rcases Rh.1 hy with rfl | hy
   ·exact c
   ·exact h1 y hy
  ·rename_i c;have c2:Qm t x < 0:=by
    rcases Np t x with h | h | h
    ·exact h
    ·exact absurd h hn.1
    ·exact absurd h c
   refine Yp.2 ⟨fun y hy=> ?_,h⟩;rcases List.mem_cons.1 hy with rfl | hy
   ·exact c2
   ·exact YD c2 (h1 y hy)
theorem TN: ∀{l:List Tm},l.Nodup→Asc (ZF l)
 | [],_=>Asc.nil
 | t:: ts,h=>by
  obtain⟨h1,h2⟩:=List.nodup_cons.1 h;exact FY (TN h2) fun hm=>h1 (X7.1 hm)
def H5 (sec:List Tm) (x:Tm):Prop:=ZK x=false∧ZZ sec x=false
theorem EL (l:List Tm) (x:Tm):l.any (eqB x)=ZZ l x:=rfl
theorem Hv {sec:List Tm}: ∀{l acc:List Tm} {y:Tm},y∈Xn sec acc l↔y∈acc∨(y∈l∧H5 sec y)
 | [],acc,y=>by simp[Xn]
 | x:: r,acc,y=>by
  simp only[Xn];rw[Hv];cases hn:NB sec acc x
  ·simp only[Bool.false_eq_true,if_false,List.mem_cons];constructor
   ·rintro(h | h)
    ·exact .inl h
    ·exact .inr ⟨.inr h.1,h.2⟩
   ·rintro(h | ⟨h | h,hf⟩)
    ·exact .inl h
    ·subst h;left;simp only[NB,EL,hf.1,hf.2,Bool.not_false,Bool.true_and,Bool.not_eq_false']at hn;exact WP.1 hn
    ·exact .inr ⟨h,hf⟩
  ·simp only[if_true,List.mem_append,List.mem_cons];simp only[NB,EL,Bool.and_eq_true,Bool.not_eq_true']at hn;constructor
   ·rintro((h | h) | h)
    ·exact .inl h
    ·simp at h;subst h;exact .inr ⟨.inl rfl,hn.1.1,hn.1.2⟩
    ·exact .inr ⟨.inr h.1,h.2⟩
   ·rintro(h | ⟨h | h,hf⟩)
    ·exact .inl (.inl h)
    ·exact .inl (.inr (by simp[h]))
    ·exact .inr ⟨h,hf⟩
theorem RO {sec:List Tm}: ∀{l acc:List Tm} {y:Tm},y∈VY sec acc l↔y∈acc∨(y∈allL l∧y.kind=2∧H5 sec y)
 | [],acc,y=>by simp[VY,allL]
 | t:: r,acc,y=>by
  simp only[VY];rw[RO,Hv,T9];simp only[allL,List.mem_append];constructor
  ·rintro((h | ⟨⟨h1,h2⟩,h3⟩) | ⟨h1,h2,h3⟩)
   ·exact .inl h
   ·exact .inr ⟨.inl h1,h2,h3⟩
   ·exact .inr ⟨.inr h1,h2,h3⟩
  ·rintro(h | ⟨h1 | h1,h2,h3⟩)
   ·exact .inl (.inl h)
   ·exact .inl (.inr ⟨⟨h1,h2⟩,h3⟩)
   ·exact .inr ⟨h1,h2,h3⟩
theorem QjO (f:Fr): (YM (allL f.t)).filter (Xe f.s)=Q0 f:=by
 refine SR (List.Pairwise.filter _ (FZ _)) (TN (R7 List.nodup_nil)) fun x=> ?_;rw[List.mem_filter,VJ,Q0,X7,RO];simp only[Xe,H5,Bool.and_eq_true,decide_eq_true_eq,Bool.not_eq_true',List.not_mem_nil,false_or];constructor
 ·rintro⟨h1,⟨h2,h3⟩,h4⟩;exact⟨h1,h2,h3,h4⟩
 ·rintro⟨h1,h2,h3,h4⟩;exact⟨h1,⟨h2,h3⟩,h4⟩
theorem Nd {x:Tm}: ∀{l:List Tm},x∈allL l→x.mass≤massL l
 | [],h=>by simp[allL]at h
 | t:: ts,h=>by
  simp only[allL,List.mem_append]at h;simp only[massL];rcases h with h | h
  ·have:=X4 t x h;omega
  ·have:=Nd h;omega
theorem Lm (f:Fr) (hf:FOk f) (hM:massL f.t < 1000000) (bs:List (List AV)):call F.tb 264 [.agg (Qj f)] bs=some (.sl false 4 (encTs (Q0 f)),bs):=by
 have hn:=nodesL_le_mass f.t;have htl:=hf.tl;have hs:=NS f.t false bs (by omega) (by omega);have hlen:=NJ (allL f.t);rw[allL_len]at hlen;have h:=fun o ρ=>Au f hf (YM (allL f.t)) bs (by omega) (fun x hx=>by have:=Nd (VJ.1 hx);omega) (YM (allL f.t)) [] [] o ρ rfl (by simp;omega);rw[QjO,List.nil_append]at h;rw[Qb F.tb_264 _ _ rfl];simp[F.f264C,Qj,hs];refine h false _ ?_ ?_ ?_ ?_ <;> simp[Qj,encTs]
theorem QA (f:Fr): (Qj f).take 2=Qj f:=rfl
theorem Qq (f:Fr): (Qj f).map AV.strip=Qj f:=rfl
theorem QG (f:Fr): (Qj f).length=2:=rfl
def Kg (f:Fr):List Tm:=if QI f=0 then f.t ++ Q0 f else []
theorem WE (f:Fr): (Q0 f).length≤nodesL f.t:=by
 unfold Q0;rw[Xj];have:=HA f.s f.t [];simpa using this
theorem QfO (f:Fr) (hf:FOk f) (hM:massL f.t < 1000000) (bs:List (List AV)):
  ∀(post pre:List Tm) (ρ:Nat→AV),f.t=pre ++ post→ρ 1= .bx (Qj f)→ρ 3= .int .i64 0→ρ 5= .sl true 4 (encTs pre)→ρ 14= .sl false 4 (encTs f.t)→ρ 15= .int .i64 f.t.length→ρ 16= .int .i64 pre.length→
  R F.tb (.loop F.f157l0) ρ bs (Ql 0 (Qr F.tb F.f157r0 (Qt F.f157 bs)))=some (.tup [.sl false 4 (encTs (f.t ++ Q0 f)),.int .i64 0],bs):=by
 have htl:=hf.tl;have hn:=nodesL_le_mass f.t;have hfl:=WE f;intro post
 induction post with
 | nil=>
  intro pre ρ hk h1 h3 h5 h14 h15 h16;simp only[List.append_nil]at hk;rw[← hk]at h16 h5;have hc:=C9 f hf hM bs;have hb: (f.t.length+ (Q0 f).length)*56≤140737488355328:=Yi (by omega);rw[Qc F.f157l0.eq_1];simp[h1,h3,h5,h14,h15,h16,F.f157r0,QA,Qq,QG,hc,hb,QP]
 | cons x post IH=>
  intro pre ρ hk h1 h3 h5 h14 h15 h16;have hg:=Qp hk;have hll:=Qx hk;have hw1:=wr1 pre.length (by omega);have hlt:=Qy hk;have hxm:=hf.t x (by rw[hk];simp);have hc:=C8 x bs (by unfold big;omega);have hb: (pre.length+1)*56≤140737488355328:=Yi (by omega);have hi:=fun ρ=>IH (pre ++ [x]) ρ (by rw[hk];simp);rw[Qc F.f157l0.eq_1];simp[h1,h3,h5,h14,h15,h16,hg,hlt,hw1,hc,hb,Q7,QP];apply hi <;> simp[h1,h3,h14,h15]
theorem Qh2 (f:Fr) (hf:FOk f) (hM:massL f.t < 1000000) (bs:List (List AV)):call F.tb 157 [.agg (Qj f)] bs=some (.tup [.sl false 4 (encTs (Kg f)),.int .i64 (QI f)],bs):=by
 have h1:=OQ f bs hf;have h:=fun ρ=>QfO f hf hM bs f.t [] ρ rfl;rw[Qb F.tb_157 _ _ rfl];by_cases c:QI f=0
 ·have e:Kg f=f.t ++ Q0 f:=by simp[Kg,c]
  rw[e,c];rw[c]at h1;generalize f.t ++ Q0 f=L at *;simp[F.f157C,QA,Qq,QG,h1];simp[Qj];apply h <;> simp[Qj,encTs]
 ·have e:Kg f=[]:=by simp[Kg,c]
  rw[e];simp[F.f157C,QA,Qq,QG,h1,c,encTs]
def Z5 (i:Nat):Tm:= .mk 1 (119:: YI i) 0 []
theorem MI (i:Nat) (h:i < 1000000000): (Z5 i).mass≤100:=by
 have:=VS 9 i (by omega);simp only[Z5,Tm.mass,massL,List.length_cons,List.length_nil];omega
theorem Qin (i:Nat) (bs:List (List AV)) (h:i < 1000000000):call F.tb 223 [.int .i64 i] bs=some (.agg (Qa (Z5 i)),bs):=by
 have h1:=I1 i bs h;have h2:=VS 9 i (by omega);have h3:1+ (YI i).length≤9223372036854775807:=by omega
 rw[Qb F.tb_223 _ _ rfl];simp[F.f223,F.f223C,h1,h3,Z5,WC];simp[Qa,encTs]
def WX (x:Tm):Nat→List Tm→Option (Nat×Tm)
 | _,[]=>none
 | k,t:: ts=>if Qm (Z5 k) x=0 then some (k,t)else WX x (k+1) ts
def ixT (x:Tm) (k:Nat) (l:List Tm):Int:=match WX x k l with
 | some p=>p.1
 | none=> -1
theorem Qj0 (x:Tm) (k:Nat):ixT x k []= -1:=rfl
theorem QfX (x t:Tm) (k:Nat) (ts:List Tm):ixT x k (t:: ts)=if Qm (Z5 k) x=0 then(k:Int)else ixT x (k+1) ts:=by
 simp only[ixT,WX];by_cases c:Qm (Z5 k) x=0
 ·simp[c]
 ·simp[c]
theorem Qap (f:Fr) (hf:FOk f) (x:Tm) (hx:x.mass < big) (bs:List (List AV)):
  ∀(post pre:List Tm) (ρ:Nat→AV),f.t=pre ++ post→ρ 3= .bx (Qa x)→ρ 8= .int .i64 f.t.length→ρ 9= .int .i64 pre.length→
  R F.tb (.loop F.f222l0) ρ bs (Ql 0 (Qr F.tb F.f222r0 (Qt F.f222 bs)))=some (.int .i64 (ixT x pre.length post),bs):=by
 have htl:=hf.tl;intro post
 induction post with
 | nil=>
  intro pre ρ hk h3 h8 h9;simp only[List.append_nil]at hk;rw[← hk]at h9;rw[Qc F.f222l0.eq_1];simp[h3,h8,h9,F.f222r0,Qj0]
 | cons y post IH=>
  intro pre ρ hk h3 h8 h9;have hll:=Qx hk;have hw1:=wr1 pre.length (by omega);have hlt:=Qy hk;have hc1:=Qin pre.length bs (by omega);have hc2:=Bc (Z5 pre.length) x bs (by have:=MI pre.length (by omega);unfold big;omega) hx;rw[Qc F.f222l0.eq_1,QfX];by_cases c:Qm (Z5 pre.length) x=0
  ·simp[h3,h8,h9,hlt,hc1,hc2,c]
  ·have hi:=fun ρ=>IH (pre ++ [y]) ρ (by rw[hk];simp);simp only[List.length_append,List.length_singleton]at hi;simp[h3,h8,h9,hlt,hc1,hc2,hw1,c];apply hi <;> simp[h3,h8]
theorem Bd (f:Fr) (hf:FOk f) (x:Tm) (hx:x.mass < big) (bs:List (List AV)):call F.tb 222 [.agg (Qj f),.agg (Qa x)] bs=some (.int .i64 (ixT x 0 f.t),bs):=by
 have h:=fun ρ=>Qap f hf x hx bs f.t [] ρ rfl;rw[Qb F.tb_222 _ _ rfl];simp only[List.length_nil]at h;simp[F.f222C,QA,Qq,QG];simp[Qj];apply h <;> simp
def SK:List UInt8:=[115,107]
def SHK:List UInt8:=[115,104,107]
def NEW:List UInt8:=[110,101,119]
def Xo (n:List UInt8):Bool:=n == SK || n == SHK || n == NEW
theorem Qio (n:List UInt8) (bs:List (List AV)):call F.tb 224 [.str n] bs=some (.bool (Xo n),bs):=by
 rw[Qb F.tb_224 _ _ rfl];by_cases c1:n=SK
 ·simp[F.f224C,Xo,SK,c1]
 ·by_cases c2:n=SHK
  ·simp only[SK,SHK]at c1 c2;simp[F.f224C,Xo,SK,SHK,c1,c2]
  ·simp only[SK,SHK]at c1 c2;simp[F.f224C,Xo,SK,SHK,NEW,c1,c2]
def YE (f a:List Tm) (x:Tm):Int:=if x.kind=1 then(if ixT x 0 f < 0 then 13 else 0)else if x.kind=2 then(if ZK x then 0 else if a.any (eqB x)then 0 else 13)else if Xo x.name then 10 else 0
def frE (f a:List Tm):List Tm→Int
 | []=>0
 | x:: xs=>if YE f a x≠0 then YE f a x else frE f a xs
theorem BR (f a:List Tm): ∀l m:List Tm,frE f a (l ++ m)=if frE f a l≠0 then frE f a l else frE f a m
 | [],m=>by simp[frE]
 | x:: l,m=>by
  simp only[List.cons_append,frE,BR f a l m];by_cases c:YE f a x=0
  ·simp[c]
  ·simp[c]
theorem Qai (f:Fr) (a:List Tm) (t:Tm) (bs:List (List AV)) (hm:t.mass < 1000000)
  (ih: ∀x∈t.kids,∀(bs:List (List AV)) (o:Bool),call F.tb 221 [.agg (Qj f),.sl o 4 (encTs a),.agg (Qa x)] bs=some (.int .i64 (frE f.t a (QY x)),bs)):
  ∀(post pre:List Tm) (ρ:Nat→AV) (o:Bool),t.kids=pre ++ post→ρ 1= .sl o 4 (encTs a)→ρ 3= .bx (Qj f)→ρ 33= .sl false 4 (encTs t.kids)→ρ 34= .int .i64 t.kids.length→ρ 35= .int .i64 pre.length→
  R F.tb (.loop F.f221l0) ρ bs (Ql 1 (Qr F.tb F.f221r0 (Qt F.f221 bs)))=some (.int .i64 (frE f.t a (allL post)),bs):=by
 have hm2:=Qo t;intro post
 induction post with
 | nil=>
  intro pre ρ o hk h1 h3 h33 h34 h35;simp only[List.append_nil]at hk;rw[← hk]at h35;rw[Qc F.f221l0.eq_1];simp[h1,h3,h33,h34,h35,F.f221r0,allL,frE]
 | cons x post IH=>
  intro pre ρ o hk h1 h3 h33 h34 h35;have hg:=Qp hk;have hll:=Qx hk;have hw1:=wr1 pre.length (by omega);have hlt:=Qy hk;have hc:=ih x (by rw[hk];simp) bs;rw[Qc F.f221l0.eq_1];simp only[allL,BR];by_cases c:frE f.t a (QY x)=0
  ·have h2:=fun ρ=>IH (pre ++ [x]) ρ o (by rw[hk];simp);rw[if_neg (by simpa using c)];simp[h1,h3,h33,h34,h35,hg,hlt,hw1,hc,c,QA,Qq,QG];apply h2 <;> simp[h1,h3,h33,h34]
  ·rw[if_pos c];simp[h1,h3,h33,h34,h35,hg,hlt,hc,c,QA,Qq,QG]
theorem Qim (f:Fr) (hf:FOk f) (a:List Tm) (ha:a.length < 1000000) (hma: ∀x∈a,x.mass < big):
  ∀(t:Tm) (bs:List (List AV)) (o:Bool),t.mass < 1000000→call F.tb 221 [.agg (Qj f),.sl o 4 (encTs a),.agg (Qa t)] bs=some (.int .i64 (frE f.t a (QY t)),bs):=by
 refine Zp (P:=fun t=>∀(bs:List (List AV)) (o:Bool),t.mass < 1000000→call F.tb 221 [.agg (Qj f),.sl o 4 (encTs a),.agg (Qa t)] bs=some (.int .i64 (frE f.t a (QY t)),bs)) ?_;intro k n s ks ih bs o hm;have hb: (Tm.mk k n s ks).mass < big:=by unfold big;omega
 have hme:=Qo (.mk k n s ks);simp only[QN,Q5]at hme;have h1:=Bd f hf (.mk k n s ks) hb bs;have h2:=OR (.mk k n s ks) bs hm;have h3:=fun o=>Ba a (.mk k n s ks) o bs ha hma hb;have h4:=Qio n bs;have hl:=fun ρ=>Qai f a (.mk k n s ks) bs hm (fun x hx bs o=>ih x hx bs o (by have h1:x.mass≤massL ks:=QD hx;omega)) ks [] ρ false rfl;simp only[QN]at hl;have e:frE f.t a (QY (.mk k n s ks))=if YE f.t a (.mk k n s ks)≠0 then YE f.t a (.mk k n s ks)else frE f.t a (allL ks):=by simp[QY,frE]
 rw[Qb F.tb_221 _ _ rfl,e];by_cases k1:k=1
 ·subst k1;by_cases c:ixT (.mk 1 n s ks) 0 f.t < 0
  ·have e2:YE f.t a (.mk 1 n s ks)=13:=by simp[YE,c]
   rw[e2];simp[F.f221C,QA,Qq,QG,h1,c]
  ·have e2:YE f.t a (.mk 1 n s ks)=0:=by simp[YE,c]
   rw[e2];simp[F.f221C,QA,Qq,QG,h1,c];apply hl <;> simp
 ·by_cases k2:k=2
  ·subst k2;by_cases c:ZK (.mk 2 n s ks)=true
   ·have e2:YE f.t a (.mk 2 n s ks)=0:=by simp[YE,c]
    rw[e2];simp[F.f221C,QA,Qq,QG,h2,c];apply hl <;> simp
   ·by_cases d:a.any (eqB (.mk 2 n s ks))=true
    ·have e2:YE f.t a (.mk 2 n s ks)=0:=by simp[YE,c,d,-List.any_eq_true]
     rw[e2];simp[F.f221C,QA,Qq,QG,h2,h3,c,d,-List.any_eq_true,-List.any_eq_false];apply hl <;> simp
    ·have e2:YE f.t a (.mk 2 n s ks)=13:=by simp[YE,c,d,-List.any_eq_true]
     rw[e2];simp[F.f221C,QA,Qq,QG,h2,h3,c,d,-List.any_eq_true,-List.any_eq_false]
  ·cases c:Xo n
   ·have e2:YE f.t a (.mk k n s ks)=0:=by simp[YE,c,k1,k2]
    rw[e2];simp[F.f221C,QA,Qq,QG,h4,c,k1,k2];apply hl <;> simp
   ·have e2:YE f.t a (.mk k n s ks)=10:=by simp[YE,c,k1,k2]
    rw[e2];simp[F.f221C,QA,Qq,QG,h4,c,k1,k2]
def Vt (f:Fr) (r:Tm):Int:=if QI f≠0 then QI f else if thV r≠0 then thV r else frE f.t (Q0 f) (QY r)
theorem Ve {f:Fr} (hM:massL f.t < 1000000): ∀x∈Q0 f,x.mass < 1000000:=fun x hx=>by
 unfold Q0 at hx;rw[X7,RO]at hx;simp at hx;have:=Nd hx.1;omega
theorem Qil (f:Fr) (hf:FOk f) (hM:massL f.t < 1000000) (r:Tm) (hr:r.mass < 1000000) (bs:List (List AV)):call F.tb 220 [.agg (Qj f),.agg (Qa r)] bs=some (.int .i64 (Vt f r),bs):=by
 have h1:=OQ f bs hf;have h2:=VD r bs (by unfold big;omega);have h3:=C9 f hf hM bs;have hn:=nodesL_le_mass f.t;have hfl:=WE f;have h4:=fun o=>Qim f hf (Q0 f) (by omega) (fun x hx=>by have:=Ve hM x hx;unfold big;omega) r bs o hr;rw[Qb F.tb_220 _ _ rfl];unfold Vt;by_cases c1:QI f=0
 ·by_cases c2:thV r=0
  ·simp[F.f220C,QA,Qq,QG,h1,h2,h3,h4,c1,c2]
  ·simp[F.f220C,QA,Qq,QG,h1,h2,c1,c2]
 ·simp[F.f220C,QA,Qq,QG,h1,c1]
end Go.Am
