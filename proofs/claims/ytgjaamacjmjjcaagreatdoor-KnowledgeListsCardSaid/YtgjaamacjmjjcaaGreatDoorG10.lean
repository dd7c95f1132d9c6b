/-
  AmCode.
-/
import Derived.Test.YtgjaamacjmjjcaaGreatDoorG07
import Derived.Test.YtgjaamacjmjjcaaGreatDoorG09
set_option linter.all false
namespace Go.Am
abbrev Q4.o (d:Nat) (x:AOp):Q4:=⟨some d,x,none⟩
abbrev Q4.n (x:AOp):Q4:=⟨none,x,none⟩
abbrev Q4.g (d:Nat) (x:AOp) (t:Nat) (b:Bool):Q4:=⟨some d,x,some (t,b)⟩
abbrev AO.i (n:Int):AO:= .c (.int .i64 n)
abbrev Q4.f (d:Nat) (b:Bool):Q4:=⟨some d,.mov (.c (.bool b)),none⟩
abbrev AC.i (n:Nat) (x:AC):AC:= .cond (.t n) x .skip
abbrev Q4.c (d f:Nat) (l:List AO):Q4:=⟨some d,.call f l,none⟩
abbrev zT:List AV:=[.int .i64 0,.str [],.int .i64 0,.sl true 4 []]
abbrev zG:List AV:=[.int .i64 0,.str [],.int .i64 0,.gs 0 0 0 0]
set_option maxRecDepth 100000
def dcQ:List AO:=[.c (.int .i64 (-1)),.c (.sl true 4 []),.c (.str [120,111,114]),.c (.str [105,110,118]),.c (.gs 0 0 0 0),.c (.str [101,120,112]),.c (.str [109,117,108]),.c (.str []),.c (.str [112,97,105,114]),.c (.str [112,107]),.c (.str [115,105,103,110]),.c (.str [111,110,101]),.c (.str [101,110,99]),.c (.str [97,101,110,99]),.c (.str [122,101,114,111]),.c (.fn 30 []),.c (.int .u64 1),.c (.int .u8 48),.c (.int .u8 57),.c (.int .u8 95),.c (.int .u8 35),.c (.str [104,97,115,104]),.c (.str [102,115,116]),.c (.str [115,110,100]),.c (.str [100,101,99]),.c (.str [97,100,101,99]),.c (.str [111,112,101,110]),.c (.str [114,101,97,100]),.c (.int .i64 (-1000)),.c (.str [115,107]),.c (.str [115,104,107]),.c (.str [110,101,119]),.c (.str [103]),.c (.int .i64 1099511627776),.c (.str [109,58,97,110,121]),.c (.int .u8 97),.c (.int .u8 122),.c (.int .u8 65),.c (.int .u8 90),.c (.sl true 1 []),.c (.str [101,35]),.c (.agg [.int .i64 0,.str [],.int .i64 0,.sl true 4 []]),.c (.str [121,58,110,111,110,99,101]),.c (.str [108,58,107,101,121]),.c (.str [120,58,110,111,110,99,101]),.c (.int .i64 2199023255552),.c (.int .u8 41),.c (.str [44,32]),.c (.int .u8 63),.c (.int .u8 40),.c (.int .u8 58),.c (.str [48,49,50,51,52,53,54,55,56,57]),.c (.fn 171 []),.c (.fn 206 []),.c (.fn 190 []),.c (.int .i64 (-8)),.c (.fn 203 []),.c (.sl true 5 []),.c (.str [97]),.c (.str [98]),.c (.str [110,97]),.c (.str [110,98]),.c (.str [107]),.c (.str [108]),.c (.str [104,105]),.c (.str [100]),.c (.str [44]),.c (.str [41]),.c (.str [40]),.c (.fn 375 []),.c (.fn 528 []),.c (.fn 543 []),.c (.int .i64 4611686018427387904),.c (.str [101,110,99,40,109,58,97,110,121,44,32,107,58,107,101,121,41]),.c (.str [112,97,105,114,40,110,58,110,111,110,99,101,44,32,107,58,107,101,121,41]),.c (.str [101,120,112,40,103,58,100,97,116,97,44,32,120,58,110,111,110,99,101,41]),.c (.str [104,97,115,104,40,112,97,105,114,40,109,58,97,110,121,44,32,110,58,110,111,110,99,101,41,41]),.c (.str [101,120,112,40,103,58,100,97,116,97,44,32,109,117,108,40,120,58,110,111,110,99,101,44,32,121,58,110,111,110,99,101,41,41]),.c (.str [101,110,99,40,101,110,99,40,109,58,97,110,121,44,32,107,58,107,101,121,41,44,32,108,58,107,101,121,41]),.c (.str [101,110,99,40,109,58,97,110,121,44,32,108,58,107,101,121,41]),.c (.str [109,117,108,40,120,58,110,111,110,99,101,44,32,121,58,110,111,110,99,101,41]),.c (.str [120,111,114,40,97,58,97,110,121,44,32,98,58,97,110,121,41]),.c (.str [98,58,97,110,121]),.c (.str [97,58,97,110,121])]
def dcZ:List (List AV):=[[.int .i64 0,.str [],.int .i64 0,.sl true 4 []],[.str [],.int .i64 0,.int .i64 0,.int .i64 0],[.int .i64 0,.str [],.int .i64 0,.sl true 4 [],.int .i64 0],[.sl true 4 [],.sl true 1 [],.sl true 1 []],[.sl true 4 [],.sl true 1 []],[.int .i64 0,.str [],.int .i64 0,.gs 0 0 0 0],[.sl true 1 [],.sl true 1 []],[.int .i64 0],[.sl true 4 []],[.gs 0 0 0 0],[.sl true 1 [],.int .i64 0],[.gs 0 0 0 0,.int .i64 0],[.sl true 4 [],.gs 0 0 0 0,.gs 0 0 0 0],[.gs 0 0 0 0,.int .i64 0,.undef,.undef,.gs 0 0 0 0],[.sl true 5 []],[.sl true 4 [],.gs 0 0 0 0,.gs 0 0 0 0,.bool false]]
structure DS where
 P:List Q4
 L:List AC
 x:Nat:=0
 k:Nat:=0
 a:List Nat:=[]
 z:Nat:=0
 m:Nat:=0
 h:Nat:=0
 d:Nat:=0
 e:Nat:=0
 g:Option (Nat×Bool):=none
 o:List Q4:=[]
 c:List AC:=[]
def DS.p (s:DS) (x:AOp):DS:=if s.e=0 then {s with d:=s.d+1,o:=⟨some (s.d+1),x,s.g⟩:: s.o}else {s with e:=0,o:=⟨some (s.e - 1),x,s.g⟩:: s.o}
def DS.w (s:DS) (x:AOp):DS:={s with o:=⟨none,x,s.g⟩:: s.o}
def dq (n:Nat):AO:=if n < 5000 then .t n else if n < 10000 then .c (.int .i64 (n - 5000:Nat))else if n=10000 then .c (.bool true)else if n=10001 then .c (.bool false)else dcQ.getD (n - 10003) (.t 0)
def dr (n:Nat):Option AO:=if n=10002 then none else some (dq n)
def DS.b (s:DS) (k:Nat):AC:=s.c.getD k .ret
def QwN:List BinOp:=[.add,.sub,.mul,.quo,.rem,.and,.or,.xor,.shl,.shr,.andNot,.eql,.neq,.lss,.leq,.gtr,.geq]
def Qxn:List UnOp:=[.not,.neg]
def ary (x:Nat):Nat:=1626032755561109165978852964028174138283775428784196258141185159230297160990966003 / 17 ^ x % 17
def Db:List Nat->List (Nat×Nat×AO)->List (Nat×Nat×AO)
 | x:: y:: z:: l,r=>Db l ((z,y,dq x):: r)
 | _,r=>r
def DS.U (s:DS) (a:List Nat) (x y0 y1 y2 y3 y4:Nat):DS:=
 if x < 33 then if x < 16 then if x < 8 then if x < 4 then if x < 2 then if x < 1 then s.p (.mov (dq y0))else s.p (.mov (.c (.int .i64 y0)))else if x < 3 then s.p (.mvs y0)else s.p (.box (dq y0))else if x < 6 then if x < 5 then s.p (.fad y1 y0)else s.p (.fadr y1 y0)else if x < 7 then s.p (.ldf y2 y1 y0 true)else s.p (.ldf y2 y1 y0 false)else if x < 12 then if x < 10 then if x < 9 then s.p (.ldg y1 y0 true)else s.p (.ldg y1 y0 false)else if x < 11 then s.p (.ld y1 y0 true)else s.p (.ld y1 y0 false)else if x < 14 then if x < 13 then s.w (.stf y3 y2 y1 (dq y0))else s.w (.st y2 y1 (dq y0))else if x < 15 then s.p (.bin (QwN.getD y2 .add) (dq y1) (dq y0))else s.p (.un (Qxn.getD y1 .not) (dq y0))else if x < 24 then if x < 20 then if x < 18 then if x < 17 then s.p (.call y0 [])else s.p (.call y1 [dq y0])else if x < 19 then s.p (.call y2 [dq y1,dq y0])else s.p (.call y3 [dq y2,dq y1,dq y0])else if x < 22 then if x < 21 then s.p (.call y4 [dq y3,dq y2,dq y1,dq y0])else s.p (.callv (dq y0) [])else if x < 23 then s.p (.callv (dq y1) [dq y0])else s.p (.callv (dq y2) [dq y1,dq y0])else if x < 28 then if x < 26 then if x < 25 then s.p (.callv (dq y3) [dq y2,dq y1,dq y0])else s.p (.lens (dq y0))else if x < 27 then s.p (.lenl (dq y0))else s.p (.app y3 y2 (dq y1) (dq y0))else if x < 30 then if x < 29 then s.p (.idxa y2 (dq y1) (dq y0))else s.p (.idx (dq y1) (dq y0))else if x < 31 then s.p (.pick (dq y2) (dq y1) (dq y0))else if x < 32 then s.p (.ext (dq y1) y0)else s.p (.nilck (dq y0))else if x < 50 then if x < 41 then if x < 37 then if x < 35 then if x < 34 then s.p (.mksl y1 [dq y0])else s.p (.mksl y2 [dq y1,dq y0])else if x < 36 then s.p (.mksl y3 [dq y2,dq y1,dq y0])else s.p (.slcl y3 (dq y2) (dr y1) (dr y0))else if x < 39 then if x < 38 then s.p (.slcs (dq y2) (dr y1) (dr y0))else s.p (.mov (.c (.sl true y0 [])))else if x < 40 then s.p (.alloc (dcZ.getD y0 []))else s.p (.galloc (dcZ.getD y0 []))else if x < 45 then if x < 43 then if x < 42 then s.p (.frz y1 y0)else s.w (.stn y4 y3 y2 (dq y1) (dcZ.getD y0 []))else if x < 44 then s.p (.mkst (dcZ.getD (a.getD 3 0) []) (Db a []))else s.p (.mkst (dcZ.getD (a.getD 6 0) []) (Db a []))else if x < 47 then if x < 46 then s.p (.mkst (dcZ.getD (a.getD 9 0) []) (Db a []))else s.p (.mkst (dcZ.getD (a.getD 12 0) []) (Db a []))else if x < 48 then s.p (.mkst (dcZ.getD (a.getD 15 0) []) (Db a []))else if x < 49 then s.p .nilp else {s with e:=y0+1}else if x < 58 then if x < 54 then if x < 52 then if x < 51 then {s with g:=some (y0,true)}else {s with g:=some (y0,false)}else if x < 53 then {s with g:=none}else {s with o:=s.P.getD y0 ⟨none,.nilp,none⟩:: s.o}else if x < 56 then if x < 55 then {s with o:=[],c:= .reg false s.o.reverse:: s.c}else {s with o:=[],c:= .reg true s.o.reverse:: s.c}else if x < 57 then {s with c:= .seq (s.b 1) (s.b 0):: s.c.drop 2}else {s with c:= .cond (.t y0) (s.b 1) (s.b 0):: s.c.drop 2}else if x < 62 then if x < 60 then if x < 59 then {s with c:= .block y0 (s.b 0):: s.c.drop 1}else {s with c:=s.L.getD y0 .ret:: s.c}else if x < 61 then {s with c:= .loop (s.L.getD y0 .ret):: s.c}else {s with c:= .exit y0:: s.c}else if x < 64 then if x < 63 then {s with c:= .ret:: s.c}else {s with c:= .skip:: s.c}else if x < 65 then {s with c:= .cond (.t y0) (s.b 0) .skip:: s.c.drop 1}else if x < 66 then {s with c:= .bad:: s.c}else {s with d:=y0 - 1}
def DS.u (s:DS) (x:Nat) (a:List Nat):DS:=s.U a x (a.getD 0 0) (a.getD 1 0) (a.getD 2 0) (a.getD 3 0) (a.getD 4 0)
def DS.v (s:DS) (n:Nat):DS:=if s.k=1 then({s with k:=0,a:=[],m:=0,z:=0}:DS).u s.x (n:: s.a)else {s with k:=s.k - 1,a:=n:: s.a,m:=0,z:=0}
def DS.s (s:DS) (n:Nat):DS:=
 if s.k=0 then(if ary n=0 then s.u n []else {s with x:=n,k:=ary n})
 else if s.m=1 then {s with m:=2,h:=n}
 else if s.m=2 then s.v (s.z+ (s.h*67+n))
 else if n < 67 then s.v (s.z+n)
 else if n=67 then {s with m:=1}
 else if n=68 then {s with z:=5000}
 else {s with z:=10000}
def cdg (n:Nat):Nat:=if 97<=n then(if 124<=n then n - 54 else n - 97)else if 91<=n then n - 18 else if 74<=n then n - 48 else if 70<=n then n+9 else if 46<=n then n - 3 else if 40<=n then n+43 else if n=33 then 67 else if n=37 then 68 else if n=38 then 69 else n+53
def dcM:List (List Nat):=[[67,1],[],[56,56],[1,0],[],[0,4],[0,0],[1,49],[54,0],[54,62,56,64],[54,66],[68,0],[14,0],[4,0],[18,67],[52,30],[14,11],[3,1],[54,62],[54,62,56]]
def DS.t (s:DS) (n:Nat):DS:=if n < 70 then s.s n else(dcM.getD (n - 70) []).foldl DS.s s
def dcs:List Char->DS->AC
 | [],s=>s.b 0
 | c:: l,s=>dcs l (s.t (cdg c.toNat))
def Qw6 {P:List Q4} {s:String} {l:List Char} {x:AC} (h:s.toList=l) (e:dcs l {P:=P,L:=[]}=x):dcs s.toList {P:=P,L:=[]}=x:=by rw[h];exact e
abbrev QtC (_:List Q4) (_:String):=AC
abbrev Qw2 (P:List Q4) (s:String):=∀x:AC,(dcs s.toList {P:=P,L:=[]}=x)->QtC P s
abbrev Qf (s:String) (P:List Q4:=[]) (x:QtC P s:=by apply(?g:Qw2 _ _);exact Qw6 String.toList_ofList (by conv=>lhs;cbv);exact fun b _=>b):AC:=x
def Qw7 {P:List Q4} {s:String} {l:List Char} {x:AC->AC} (h:s.toList=l) (e: ∀a0,dcs l {P:=P,L:=[a0]}=x a0): ∀a0,dcs s.toList {P:=P,L:=[a0]}=x a0:=by rw[h];exact e
abbrev QtD (_:List Q4) (_:String) (_:AC):=AC
abbrev Qw3 (P:List Q4) (s:String):=∀x:AC->AC,(∀a0,dcs s.toList {P:=P,L:=[a0]}=x a0)->∀a0,QtD P s a0
abbrev Ko (a0:AC) (s:String) (P:List Q4:=[]) (x:QtD P s a0:=by apply(?g:Qw3 _ _);exact Qw7 String.toList_ofList (by intro _;conv=>lhs;cbv);exact fun b _=>b):AC:=x
def Qw8 {P:List Q4} {s:String} {l:List Char} {x:AC->AC->AC} (h:s.toList=l) (e: ∀a0 a1,dcs l {P:=P,L:=[a0,a1]}=x a0 a1): ∀a0 a1,dcs s.toList {P:=P,L:=[a0,a1]}=x a0 a1:=by rw[h];exact e
abbrev QtE (_:List Q4) (_:String) (_ _:AC):=AC
abbrev Qw4 (P:List Q4) (s:String):=∀x:AC->AC->AC,(∀a0 a1,dcs s.toList {P:=P,L:=[a0,a1]}=x a0 a1)->∀a0 a1,QtE P s a0 a1
abbrev QH (a0 a1:AC) (s:String) (P:List Q4:=[]) (x:QtE P s a0 a1:=by apply(?g:Qw4 _ _);exact Qw8 String.toList_ofList (by intro _ _;conv=>lhs;cbv);exact fun b _=>b):AC:=x
def Qw9 {P:List Q4} {s:String} {l:List Char} {x:AC->AC->AC->AC} (h:s.toList=l) (e: ∀a0 a1 a2,dcs l {P:=P,L:=[a0,a1,a2]}=x a0 a1 a2): ∀a0 a1 a2,dcs s.toList {P:=P,L:=[a0,a1,a2]}=x a0 a1 a2:=by rw[h];exact e
abbrev QtF (_:List Q4) (_:String) (_ _ _:AC):=AC
abbrev Qw5 (P:List Q4) (s:String):=∀x:AC->AC->AC->AC,(∀a0 a1 a2,dcs s.toList {P:=P,L:=[a0,a1,a2]}=x a0 a1 a2)->∀a0 a1 a2,QtF P s a0 a1 a2
abbrev HQ (a0 a1 a2:AC) (s:String) (P:List Q4:=[]) (x:QtF P s a0 a1 a2:=by apply(?g:Qw5 _ _);exact Qw9 String.toList_ofList (by intro _ _ _;conv=>lhs;cbv);exact fun b _=>b):AC:=x
abbrev Fn0 (a b:Nat) (x:AC):ZR:=⟨a,b,[],x,false⟩
abbrev Fn1 (a b c:Nat) (x:AC):ZR:=⟨a,b,[.tmp c],x,false⟩
abbrev Fn2 (a b c d:Nat) (x:AC):ZR:=⟨a,b,[.tmp c,.tmp d],x,false⟩
end Go.Am
namespace Go.Am.F
set_option maxRecDepth 100000
def f6C:=Qf "da[9XhXhn,HnebHGgg[euhg%bde4fah`fomiH`f4cakFj~j,opl%!fDam6njebopo%X*n&ap94cbdFq;4c[#~~;"
abbrev f6:=Fn1 1 17 2 f6C
def f7l0:=Qf "E?on>=9B@b<?Le<>k@e4kWamk]A9gk]abIC%[caduhBDE|a4la|b`lom|cH`l4ia|eF|d~;=cI>%_>a|f9~;"
def f7r0:=Qf "Ei[$"
def f7C:=QH f7l0 f7r0 "EedaEi[GmacPmjnbIo%bPmnqbp`dadPsjt[b8aExPrnxbw9e(h(bGK+z%_JaK9B+z%c4JaL9<J;eechecbonN%^O6PeechecbopR%f*P&aSaT6Ueedhe,JWopXH*U&aY94ibbFZ;E/+z%d4.a/9eechecbom1H94ibbF2;4ibb$<.;<J;=a;eebhebbri4pa594ibcF6;eedhe,J8op9%i94ibdF:;eedhe,J<[9?a=b;>b~~~;" [.o 22 (.mx (.t 20) (.t 21))]
abbrev f7:=Fn1 4 73 8 f7C
def f8l0:=Qf "EXonWV9B@a<XaW4daY9^adMZ.rj/pa094ca&bF1~=bIW%_Wa29~;"
def f8r0:=Qf "Eca&a$"
def f8C:=QH f8l0 f8r0 "Eca&bGe^+e&kaf6g^zhopi%y*g&ajak6l^MmHrjnpao*l&apaq6r^MsHoqt&uau5v^MwHoox&v6rNvy&b*r&azaJ6K^MLH+M&w*K&aNaO6P^MQH+R&x*P&aS94ca&bFT;^zU[9?a=a;>b~;"
abbrev f8:=Fn1 1 48 2 f8C
def f9C:=Qf "Eca&b9^oqd&V]5f^oog&W*fh&[i6j^oqk&Xal5m^oon&Y6jNmo&b*j&apaq6r^oqs&uat5u^oov&v6rNuw&b*r&axay6z^+J&w*z&aKaL6M^+N&x*M&aO4caP#~"
abbrev f9:=Fn1 1 33 2 f9C
def f30l0:=Qf "EZaf+Z%^.5/agecdhc,J2on03*/4&b9B@a<5;E8ecdhcd[gLe9:k;eeddhdd[gLe>?k@esN<A4faB:=_6ag47I6%_ga79~"
def f30r0:=Qf "ECaf4(C$"
def f30C:=QH f30l0 f30r0 "Ecda,[Ghgc]rOhgd]rOjsPik4fal:af+mH9ecahcabedahdabsPpr4fas9Cn;af+tH9ecbhcbbe,h,bsQwy4faz9Cu;af+JH9ecchccbedchdcbsPMO4faP9CK;af+QH9ecdhc,JTeddhd,JWsPUX4faY9CR;4g[9?a=a;>b~~~;"
abbrev f30:=Fn1 2 65 4 f30C
def f31l0:=Qf "Ekonji9B@a<kLehjkle4fWamf]m`dgf]rOoInp4daq9;=bIj%_jar9~;"
def f31r0:=Qf "Esad4cas$"
def f31C:=QH f31l0 f31r0 "da[9bbGgebdhb,Jh[9?a=a;>b~;"
abbrev f31:=Fn1 1 19 2 f31C
def f32C:=Qf "Ee[Gg^abongh4fai94(&d$Ek^abopkl4jam94ebbFj;<f;=a4e[#~;"
abbrev f32:=Fn1 2 13 4 f32C
def f41C:=Qf "da[Geg[erge4daf`domgH`d4caiFh~g[erZj4cak#~;"
abbrev f41:=Fn1 1 11 2 f41C
def f42l0:=Qf "EYonXW9B@b<YLeVXkZe4gWamg].9egahgab+0%da162egchgcbom4%b*2&a594cbkF6~=cIX%_Xa79~;"
def f42l1:=Qf "EDonCB9B@d<DLeACkEe4iWami]|a9gi]rZ|_ja|c`jom|dH`j4ca|fF|e~;=eIC%_Ca|g9~;"
def f42r0:=Qf "Ec[$"
def f42r1:=QH f42l1 f42r0 "E@ebdhb,JA[9?a=d;>b;"
def f42C:=QH f42l0 f42r1 "da[Gke[h[boml%d94c[Fm;ebbhbbbr.o4dWbmd]p9eddhd,+rH94cbkFs;ebdhb,Ju4(v9]e,h,bonwyaz6J]edchdcbopKM*J&aN94cbgFO~ebbhbbbGS+Q&P4RaS9B+Q&Q4RaT9<R;ebdhb,JV[9?a=b;E9+Q&R48a99ebdhb,Le;Hf<al=bom>%c94cbkF?;C8;<R;=a;>b~~~"
abbrev f42:=Fn1 1 74 2 f42C
def f43l0:=Qf "Eionhg9B@a<iLefhkje4eWbme]k9e(h([a+mn9ge]mc]pFo~=bIh%_haq9~;"
def f43r0:=Qf "8amc]r$" [.o 17 (.mkst [.str [],.int .i64 0,.int .i64 0,.int .i64 0] [])]
def f43C:=QH f43l0 f43r0 "EcWbGfq/Jf[9?a=a;>b~"
abbrev f43:ZR:=⟨1,18,[.cell 2 4 true],f43C,false⟩
def f44C:=Qf "4aVe9Xi98^g9bbbcbdGhacad8bGkacad8cGnacad8dGqacad8eGtacad8fGwacad8gGzacad8hGLacad8iGOacad8jGRacad8kGUacad8lGXacad8mG.ac]8nG1ac]8oG4ac]8pG7acaf8qG:acaf8rG=acaf8sG@acaf8tGCacaf8uG|^caf8vG|djb_ac|d#~~~~~~~~~~~~~" [.o 6 (.mkfn 45 [.t 1]),.o 9 (.callv (.t 7) [.t 8,.c (.str [112,97,105,114]),.i 2,.i 2]),.o 12 (.callv (.t 10) [.t 11,.c (.str [101,110,99]),.i 2,.i 2]),.o 15 (.callv (.t 13) [.t 14,.c (.str [97,101,110,99]),.i 2,.i 2]),.o 18 (.callv (.t 16) [.t 17,.c (.str [112,107]),.i 1,.i 1]),.o 21 (.callv (.t 19) [.t 20,.c (.str [115,105,103,110]),.i 2,.i 2]),.o 24 (.callv (.t 22) [.t 23,.c (.str [104,97,115,104]),.i 1,.i 1]),.o 27 (.callv (.t 25) [.t 26,.c (.str [120,111,114]),.i 2,.i 8]),.o 30 (.callv (.t 28) [.t 29,.c (.str [122,101,114,111]),.i 0,.i 0]),.o 33 (.callv (.t 31) [.t 32,.c (.str [101,120,112]),.i 2,.i 2]),.o 36 (.callv (.t 34) [.t 35,.c (.str [109,117,108]),.i 2,.i 8]),.o 39 (.callv (.t 37) [.t 38,.c (.str [105,110,118]),.i 1,.i 1]),.o 42 (.callv (.t 40) [.t 41,.c (.str [111,110,101]),.i 0,.i 0]),.o 45 (.callv (.t 43) [.t 44,.c (.str [115,107]),.i 1,.i 1]),.o 48 (.callv (.t 46) [.t 47,.c (.str [115,104,107]),.i 2,.i 2]),.o 51 (.callv (.t 49) [.t 50,.c (.str [110,101,119]),.i 1,.i 8]),.o 54 (.callv (.t 52) [.t 53,.c (.str [102,115,116]),.i 1,.i 1]),.o 57 (.callv (.t 55) [.t 56,.c (.str [115,110,100]),.i 1,.i 1]),.o 60 (.callv (.t 58) [.t 59,.c (.str [100,101,99]),.i 2,.i 2]),.o 63 (.callv (.t 61) [.t 62,.c (.str [97,100,101,99]),.i 2,.i 2]),.o 66 (.callv (.t 64) [.t 65,.c (.str [111,112,101,110]),.i 2,.i 2]),.o 69 (.callv (.t 67) [.t 68,.c (.str [114,101,97,100]),.i 1,.i 1])]
abbrev f44:=Fn1 0 71 0 f44C
def f45C:=Qf "8aEka[cad^1[bkbblcbm,nQeoKXejp8b9" [.o 9 (.ldm 4),.n (.stm 4 16)]
abbrev f45:=Fn0 5 17 f45C
def f46C:=Qf "daWaGgg[es2g&Z4fahOfaOf_dWamd]i4(j9gd]mc]k#~;"
abbrev f46:ZR:=⟨1,11,[.cell 2 4 true],f46C,false⟩
def f47l0:=Qf "Elonkj9B@a<lLbiklm_han`hono%^p6qahecdhc,Jtoqru*q&av98aZe]xa4fbhFw;Eyecdhcd[hLezJkKemc]L9~=bIk%_kaM9~;" [.o 23 (.mkst zG [])]
def f47r0:=Qf "ENgc]r3Nme]O4f[$"
def f47C:=QH f47l0 f47r0 "EcdaEeWa[GiabJi[9?a=a;>b~"
abbrev f47:ZR:=⟨2,32,[.cell 4 4 true,.tmp 5],f47C,false⟩
def f48l0:=Qf "Emonlk9B@a<mLejlkne4fWamf]o9ebd8aErgf]r3rQesK;eqtebd8b:;=bIl%_law9~;" [.o 16 (.ldfm 1 3),.n (.stfm 1 3 20)]
def f48r0:=Qf "Exg[emc]x$"
def f48C:=QH f48l0 f48r0 "daWaGgebdhbd_dch9ebdmb,&e`dJj[9?a=a;>b~~"
abbrev f48:ZR:=⟨1,24,[.cell 2 4 true],f48C,false⟩
def f49C:=Qf "EeWa9^ab0^b%,bf,gme]h#~"
abbrev f49:ZR:=⟨2,8,[.cell 4 4 true],f49C,false⟩
def f54C:=Qf "da[Geg[er:e4daf`domgH`d4caiFh~g[er?jopk%!fDal6mg[er@nopo%X*m&ap94cbdFq;4c[#~~"
abbrev f54:=Fn1 1 17 2 f54C
def f55l0:=Qf "El]ebdhb,Jnonlo9B@a<p;Esebdhbd[eLetukver:w4fax`fomyH`f4caJFz~=_q]4rIq%_(r9~"
def f55r0:=Qf "Ec[$"
def f55C:=QH f55l0 f55r0 "da[Ggg[er;g4dah`domiH`d4cakFj~4e[9?a=a;>b~;"
abbrev f55:=Fn1 1 27 2 f55C
def f56C:=Qf "da[Gee[h[b+f%[g6he[h[b+j%c*h&ak4dal`dpaman5oe[h[bomq%d*or&[s6tebchbcbonvH*t&awax6yebchbcbopJ%f*y&aKaL6MadpaNaO5PebchbcbomRH6MNPS&b*M&aTaU6VadaW5Xebdhb,JZop.H6VNX/&b*V&a094cbbF1;ebbhbbbr<3pa494cbcF5;ebdhb,J7op8%i94cbdF9;4c[#~~~"
abbrev f56:=Fn1 1 55 2 f56C
def f57l0:=Qf "Esad^ztonsu9B@a<v;Ey^adMyzr=JpaKaL5M^adMNOr>PpaQ*MR&[S5T^adMUVomW&w*TX&[Y5Z^adM./om0&x*Z1&b94ca&bF2;=_wad4xIw%_dax9~"
def f57r0:=Qf "Eca&a$"
def f57C:=QH f57l0 f57r0 "Eca&bGe^ze+f%^g6h^ziopj%y*h&akal6m^MnHr=opap*m&aq94ca&bFr;4d[9?a=a;>b~;"
abbrev f57:=Fn1 1 48 2 f57C
def f58C:=Qf "Eca&b9^oqd&V]5f^oog&W*fh&[i6j^oqk&Xal5m^oon&Y6jNmo&b*j&ap4caq#~"
abbrev f58:=Fn1 1 17 2 f58C
def f59C:=Qf "Eca&b9^oqd&u]5f^oog&v*fh&_cai#~"
abbrev f59:=Fn1 1 9 2 f59C
def f60l0:=Qf "Ef]ebdhb,Jhonfi9B@a<j;Emadebdhbd[eLeopkqer?rIms4dat9=_k]4lIk%_(l9~"
def f60r0:=Qf "Euad4cau$"
def f60C:=QH f60l0 f60r0 "da[9bb9[9?a=a;>b~;"
abbrev f60:=Fn1 1 21 2 f60C
def f61l0:=Qf "Ef]ebdhb,Jhonfi9B@a<j;Emadebdhbd[eLeopkqer@r8a4dat9=_k]4lIk%_(l9~" [.o 19 (.mx (.t 12) (.t 18))]
def f61r0:=Qf "EuadIu%_cav$"
def f61C:=QH f61l0 f61r0 "da[9[9[9?a=a;>b~;"
abbrev f61:=Fn1 1 22 2 f61C
def f63C:=Qf "Eca&k98aEe^Lbdelf_cag#~" [.o 3 (.mksl 1 [.c (.str [97,110,121]),.c (.str [97,103,101,110,116]),.c (.str [110,111,110,99,101]),.c (.str [107,101,121]),.c (.str [100,97,116,97]),.c (.str [116,97,103])])]
abbrev f63:=Fn1 1 7 2 f63C
def f71C:=Qf "EcdaE(&b9ecahcab+g%dah5iecbhcb[b+kl*im&_(n#~"
abbrev f71:=Fn1 2 14 4 f71C
def f73C:=Qf "E(&ka&b9^abs|hghOiaOi_(j4fak#~"
abbrev f73:=Fn2 2 11 4 5 f73C
def f74C:=Qf "E(&ka&b9^abs|ighpai9^4(k4fa&bFj;^abzmUln&c4(o4fa&a#~;"
abbrev f74:=Fn2 2 15 4 5 f74C
def f75C:=Qf "E(&b9^zfabzhoqgiaj5k^abzmUl&cnab+op*kq&_(r#~"
abbrev f75:=Fn1 2 18 4 f75C
def f89C:=Qf "Ecdad[&b9gc]gd]s|xfg+hH4(i#~"
abbrev f89:=Fn1 2 9 4 f89C
def f90l0:=Qf "E:ajecdhc,J<on:=9B@a<>;EAecdhcd[jLeBCkDeeddhdd[jLe|b|ck|des|xE|e4ka|f:akom|gH`k4(|iF|h~=_?aj4@I?%_ja@9~"
def f90r0:=Qf "Ee[$"
def f90C:=QH f90l0 f90r0 "Ecda,[Glgc]r?lgd]r?ns|ymo4fap:afomqH`f4(sFr~ecahcabedahdabs|yuw4gax`gomyH`g4(JFz~ecbhcbbe,h,bonLN94(&dFO;ecbhcbbe,h,bopQS94ebbFT;ecchccbedchdcbs|yVX4haY`homZH`h4(/F.~ecdhc,J1eddhd,J4s|y254ia6`iom7H`i4(9F8~4j[9?a=a;>b~~~~"
abbrev f90:=Fn1 2 76 4 f90C
def f91C:=Qf "Ee[9^abonfg94(&dFh;^abopij94ebbFk;4e[#~~"
abbrev f91:=Fn1 2 11 4 f91C
def f101l0:=Qf "Emah^Jnonmo9B@a<p;Es^ahLestku(cs|Svw4cax`conyH94ga&bFz~=_qah4rIq%_har9~"
def f101r0:=Qf "Ega&a$"
def f101C:=QH f101l0 f101r0 "Ega&bGi^Jiabopjk94ga&bFl;4h[9?a=a;>b~;"
abbrev f101:=Fn1 3 26 6 f101C
def f102l0:=Qf "Eqafecdhc,Jsonqt9B@a<u;Execdhcd[fLeyzkJ(bs|SKL4[M`bonNH94(&dFO~=_vaf4wIv%_faw9~"
def f102r0:=Qf "EPa_(P$"
def f102C:=QH f102l0 f102r0 "EcdaEe[Ggaboog%^h6iecbhcbbzkopl%X*i&am94(&dFn;abobo%_[p94f[9?a=a;>b~~"
abbrev f102:=Fn1 2 33 4 f102C
def f107C:=Qf "EeWa9^ab0fab%cbbfcbgZe]ha#~"
abbrev f107:ZR:=⟨2,8,[.cell 4 4 true],f107C,false⟩
def f112l0:=Qf "Elaf^Jmonln9B@a<o;Er^afLerskt([fLevwkxes|wuypaz:4(&bFJ;=_paf4qIp%_faq9~"
def f112r0:=Qf "E(&a$"
def f112C:=QH f112l0 f112r0 "E(&bGg^JgabJiomhj94(&bFk;4f[9?a=a;>b~;"
abbrev f112:=Fn1 2 27 4 f112C
def f120C:=Qf "EeWa9^8aEhabK;egh0^b%,bf,ime]j#~" [.o 6 (.mksl 4 [])]
abbrev f120:ZR:=⟨2,10,[.cell 4 4 true],f120C,false⟩
def f126C:=Qf "da[Geg[er9e4daf`domgH`d4caiFh~g[er|?j4cak#~;"
abbrev f126:=Fn1 1 11 2 f126C
def f127l0:=Qf "Ey]ebdhb,JJonyK9B@a<L;EOebdhbd[eLePQkRer|?S4faT`fomUH`f4caWFV~=_M]4NIM%_(N9~"
def f127r0:=Qf "Ec[$"
def f127C:=QH f127l0 f127r0 "da[Gge[h[bomh%d94c[Fi;ebbhbbbr|@k4dal`d+mH94cbkFn;g[er|Bopap94cbgFq;ad+r%cas5tg[er|Cupav*tw&b94cbkFx;4e[9?a=a;>b~~~;"
abbrev f127:=Fn1 1 40 2 f127C
def f128l0:=Qf "Eg]adJhongi9B@a<j;Emad]LemnfIlp[a+qr`d]Letufvdlw_caxFs;=_k]4lIk%_(l9~"
def f128r0:=Qf "Ec[$"
def f128C:=QH f128l0 f128r0 "Ec[Gfq|A4dcf94e[9?a=a;>b~;"
abbrev f128:=Fn1 1 24 2 f128C
def f129C:=Qf "4aVe91[b&lbb%ccb%c,%b1[b&pbb%ccb%c,%b1[b&qbb%ccb%c,%b1[b&mbb%bcb%b,%b1[b&nbb%ccb%c,%b1[b&ybb%bcb%b,%b1[b&fbb%ccb%i,%b/[b&r,%b1[b&ibb%ccb%c,%b1[b&jbb%ccb%i,%b1[b&gbb%bcb%b,%b/[b&o,%b1[b&Pbb%bcb%b,%c1[b&Qbb%ccb%c,%c1[b&Rbb%bcb%i,%c1[b&zbb%bcb%b,%d1[b&Jbb%bcb%b,%d1[b&Kbb%ccb%c,%d1[b&Lbb%ccb%c,%d1[b&Mbb%ccb%c,%d1[b&Nbb%bcb%b,%d8a4acw#~" [.o 22 (.mksl 4 [.t 1,.t 2,.t 3,.t 4,.t 5,.t 6,.t 7,.t 8,.t 9,.t 10,.t 11,.t 12,.t 13,.t 14,.t 15,.t 16,.t 17,.t 18,.t 19,.t 20,.t 21])]
abbrev f129:=Fn1 0 23 0 f129C
def f130l0:=Qf "Eg]adJhongi9B@a<j;Emad]LemnfIlpbebbhbbb+qs:ebdhb,Jvad]LexyfzblJboqwKaL5Mebdhb,JOad]LeQRfSclTbooPU*MV&_caW:A;Ct;=_k]4lIk%_(l9~"
def f130r0:=Qf "Eca&b$"
def f130C:=QH f130l0 f130r0 "d^&bGfq|A4dcf94e[9?a=a;>b~;"
abbrev f130:=Fn1 1 40 2 f130C
def f131l0:=Qf "Enadebdhb,Jponnq9B@a<r;Euebdhbd[dLevwfxalyb+z%daJ6Kebdhbd[dLeMNfOclPbomQ%b*K&aR94ca&bFS;=_sad4tIs%_dat9~"
def f131r0:=Qf "Eca&a$"
def f131C:=QH f131l0 f131r0 "d^&bGeebbhbbb+f&R9ebdhb,LeiHfjalkb+l%c4camFg;4d[9?a=a;>b~;"
abbrev f131:=Fn1 1 36 2 f131C
def f132C:=Qf "EcdaE(&b9ecahcab+g%dah5iecbhcb[b+kl*im&_(n#~"
abbrev f132:=Fn1 2 14 4 f132C
def f153C:=Qf "EcWa[Gj^)cuj%!lB4iakOiaOibOic4eWame]l4fam4gan`gpaIp6qafomr&k*q&as98aZc]ua4,cFt;Evge]r9v4haw`homxH98bEJahZc]za4daJFy~ge]mc]K4d[#~~;" [.o 20 (.mkst zG []),.o 25 (.mkst zG [])]
abbrev f153:ZR:=⟨1,28,[.cell 2 4 true,.tmp 3],f153C,false⟩
def f154l0:=Qf "EB^zBopC%^D5E^M|aHom|b&4*E|c&b9B@a<|d;ehdhh,J|fop|gH9^z|ion|j%ca|k6|l^U|m&c%com|n&5*|l&a|o9gh]^me]|q4fa|r4ga&bF|p;^U|s%c&c4^|t9;C|h;E|v^abob|w%b)cu|v|x4|ua|yO|uaO|ubO|uc4iWami]|z4ja|J4ka|K`kpa|L9gh]^me]|N4fa|O4ga&bF|M;ehd8aE|Rgi]Qe|RK;e|Q|Sehd8b`j4^|V9~~=b;" [.o 100 (.ldfm 7 3),.n (.stfm 7 3 103)]
def f154r0:=Qf "E|W^z|W+|XH9gh]^me]|Z4fa|.4ga&bF|Y;gh]^U|0%b&cme]|/4fa|14ga&a:A~"
def f154C:=QH f154l0 f154r0 "EeW^&ka&bGl.fab%c4hWaZh]la9^zmopn%^o5p^MqH+r&6*ps&b9ehamhab%b9^Uv%b&c4^w9;Ct;^r!cvxehbmhbby9ehbhhbbr<KpaLaM6Nab+OH*N&aP9gh]^me]R4faS4ga&bFQ;a]hbhhbbzVUTW&c4^X9ehahhab+Z%[.6/^z0+1H*/&a2a364^M5Hom6&7*4&a79gh]^)cw9:O;aO;bO;cme]<4fa=4ga>F8;ehamhab%d9^U@%b&c4^A9?a=a>b~~~~~"
abbrev f154:ZR:=⟨2,114,[.cell 4 4 true,.tmp 5,.tmp 6],f154C,false⟩
def f155l0:=Qf "E(d^zfonegah5i^adMjkr=lam6n^adMopr>q5iNn&aras6t^adMuv+w&w5iNt&axay6z^adMJK+L&x5iNz&aM*iN&b9B@a<O;adIP%_daQ9=b;"
def f155r0:=Qf "ER^adUR&cS4caT$"
def f155C:=QH f155l0 f155r0 "Eca&k9[9?a=a>b~;"
abbrev f155:=Fn1 1 37 2 f155C
def f156l0:=Qf "Ezaiooz%f9B@a<J;EMahairBN+MOaP5QaiomR%^S6Tecahcab+V%c5QNT&aW*QX&b`ieccmccbZ9gc]a[hz1I%b2U03&cme]/4fa44ga&a:A~CY;=_Kai4LIK%_iaL9~"
def f156r0:=Qf "E5gc]abme]54fa64ga&b$"
def f156C:=QH f156l0 f156r0 "EcdaEeW^&ka&bGjabzj+k%^l6mabMnHomo&8*m&ap9gc]abecahcab+u%bme]r4fas4gav:A;Cq;abUw%b&cr!cvx4hay94i[9?a=a;>b~~"
abbrev f156:ZR:=⟨2,52,[.cell 4 4 true,.tmp 5,.tmp 6],f156C,false⟩
def f159C:=Qf "d^&bGfe[h[b+g%d9g[eRb&r&o)cJijak5lebdhb,Jn+oH*lp&_caqFh;e[h[boms%c94ca&bFt;Evebbhbbbs|gw&.4uaxOuaOu_day4(z9ebchbcbGM+K%_LaM9B+K%f4LaN9<L;4ca&a$EP+K%e4OaP9ebbhbbb+R&SaS6T]aU5Vadr!cMW6TNVX&b*T&aY4caZ$E/+KH4.a/9B+K%c4.a09B+K%d4.a19<.;<.;]a253adr!cM4*35&_ca6F.;<O;<L;=a;4ca&b#~~~"
abbrev f159:=Fn1 1 52 2 f159C
def f160C:=Qf "EcdaE(&b9ecahcab+g%dah5iabecbhcbb)cKjl*im&_(n#~"
abbrev f160:=Fn1 2 14 4 f160C
def f161C:=Qf "E(&b9^ab)cLfgoqhH4(i#~"
abbrev f161:=Fn1 2 9 4 f161C
def f162l0:=Qf "Ejonih9B@a<jai4fak`[^fLbmnlob+lp`f4(rFq~=bIi%_ias9~;"
def f162r0:=Qf "E(&d$"
def f162C:=QH f162l0 f162r0 "Ee[Gg^Jg[9?a=a;>b~"
abbrev f162:=Fn1 2 19 4 f162C
def f163C:=Qf "Eca&b9^omd&k]5f^)cNg&9+h&k*fi&_caj#~"
abbrev f163:=Fn1 1 10 2 f163C
def f165C:=Qf "daVe9g[e)cPd%_cce#~"
abbrev f165:=Fn1 1 5 2 f165C
def f166C:=Qf "Ecda8aEeVe9Xj9gc]8bEi)cRgh9jfbr!cSj4eck#~~" [.o 3 (.gbox (.t 1)),.o 7 (.mkfn 167 [.t 3,.t 5])]
abbrev f166:=Fn1 2 11 4 f166C
def f167C:=Qf "Edda9edahdabjbb+fg9jcbgd]JiQe&/8aEnLemk8bncbm:Ch~" [.o 12 (.appM 56 4 (.t 8) (.t 11)),.n (.stq 13 4 (.t 9) 2)]
abbrev f167:ZR:=⟨3,14,[],f167C,true⟩
def f168l0:=Qf "Enonml9B@a<nLekmkoe4fWamf]p9gf]ab)cRqr9;=bIm%_mat9~;"
def f168C:=Ko f168l0 "EcdaGgabgc]wgh9ecdhc,Jk[9?a=a~;"
abbrev f168:ZR:=⟨2,20,[],f168C,true⟩
def f169l0:=Qf "Elonkj9B@a<lak4dam9^ad^adLepqirer3sLenonuet9;=bIk%_kav9~;"
def f169r0:=Qf "Ew^4cYwe$"
def f169C:=QH f169l0 f169r0 "EcVeGe^)cTe&s9^)cVg&:4^h9^Ji[9?a=a;>b~~"
abbrev f169:=Fn1 1 23 2 f169C
def f171C:=Qf "Ecdad[&b9gc]gd]sNfg+hH4(i#~"
abbrev f171:=Fn1 2 9 4 f171C
def f172l0:=Qf "EPahagJQonPR9B@c<S;EVa[gahLeWXiY(gahob/%bLe.0i1exVZ2pa3:^afagahLe78i9eLe56n;e:`fI<%_fa=9;C4;=d4Tah4UIT%_haU9~"
def f172r0:=Qf "E>^afTe>?&c8a9^afTeA&cB4(C#~" [.n (.clr 4 (.t 61))]
def f172r1:=Qf "EqafIq%_far9"
def f172l1:=HQ f172l0 f172r0 f172r1 "Emaf^Jnonmo9B@a<p;Esa[^fLetuive^afoby%bLexziJexswK:^afTeMN&c4gaO94hbb9?a=c;>b~CL;=b>c~"
def f172r2:=Qf "ED^4(D$"
def f172C:=QH f172l1 f172r2 "EeVeGi^Jionj%c9^4(lFk;4fbb9?a=a;>b~;"
abbrev f172:ZR:=⟨2,66,[.tmp 4],f172C,true⟩
def f173C:=Qf "d^&bGgg[er!cXg4fahOfaOf_dWamd]i4(j9]+k%^l5mgd]g[e)c.no*mp&[q5rg[e)dgs&;*rt&_cau#~;"
abbrev f173:=Fn1 1 21 2 f173C
def f174C:=Qf "daWa[Ghg[erYh4(i9]omjH98aEm]Zc]la4damFk~Eog[er!cYo4napOnaOn_fWamf]q4gar`g+sH9gf]rgu4gav9Ct;agomwH98bEzagZc]ya4dazFx;gf]mc]J4d[#~~~" [.o 11 (.mkst zG []),.o 24 (.mkst zG [])]
abbrev f174:ZR:=⟨1,27,[.cell 2 4 true,.tmp 3],f174C,false⟩
def f175l0:=Qf "Ewonvu9B@a<wLetvkxe4gWamg]yGJgg]r!cYJ4zaKOzaOz_hWamh]L4iaM`iomNH98aEQaiZc]Pa4daQFO;eed8bETgh]QeTK;eSUeed8c9~;=bIv%_vaX9~;" [.o 32 (.mkst zG []),.o 35 (.ldfm 4 3),.n (.stfm 4 3 38)]
def f175r0:=Qf "EYebbhbbbG/+Z&z4.a/9B+Z&J4.a09B+Z&K4.a19B+Z&L4.a29B+Z&M4.a39B+Z&N4.a49<.;<.;<.;<.;<.;ge]r!cZ5mc]64d[$E8+Z&f47a89eedhe,r!c/:O;aO;bmc]<4da=$E?+Z&j4>a?9B+Z&g4>a@9B+Z&o4>aA9<>;<>;ECge]r!c7C4BaDOBaOB_jcE4ka|a`kom|bH98aE|(kZc]|da4da|eF|c;ajr!cA|fO|gaO|gbmc]|h4da|i#~;E|k+Z&i4|ja|k9eedhe,Le|mHk|neeedhe,Le|q%bk|re)cD|o|sO|taO|tbmc]|u4da|v:A;C|j;<>;<7;<.;=c;ge]mc]|w4d[#~" [.o 70 (.mkst zG [])]
def f175C:=QH f175l0 f175r0 "daWa[Gle[h[bomm%d9g[emc]o4d[Fn;ebbhbbb/fab%,bq4eWaZe]ra9ebdhb,Jt[9?a=a;>b~~"
abbrev f175:ZR:=⟨1,90,[.cell 2 4 true,.tmp 3],f175C,false⟩
def f176C:=Qf "daWaGhebdhb,LeiHkje4dWamd]k94eWa9ebdhb,Jmopn%b9ebdhb,Leq%bkreme]s9Co;4fa&b94g[9ebbhbbbGw+u&z4vaw9gd]s|ex&l4fayGJ+u&J4zaJ9gd]s|eK&l4faL4gbbGN+u&K4MaN9gd]s|eO&paP5Qeddhd,LeS%bkTege])c.UV*QW&_faX:EZ+u&L4YaZ9gd]s|e.&qa/50eddhd,Le2%bk3es|e4&m*05&[657eddhd,Le9%bf:dl;bLe<Hk=ege])c.>?*7@&_faA:EC+u&M4BaC9gd]s|eD&naE5|age]s|e|b&m*|a|c&[|d5|eeddhd,Le|g%bk|heeedhe,Le|kHk|le)c.|i|m*|e|n&_fa|o:E|q+u&N4|pa|q9gd]s|e|r&n4fa|s9C|p;<B;<Y;<M;<z;<v;=a;af9eddhdd[gLe|v|wk|xemc]|yF|t;g[emc]|z#~~~~;"
abbrev f176:ZR:=⟨1,93,[.cell 2 4 true],f176C,false⟩
def f177C:=Qf "Ecdad[&b9gc]gd]sNfg+hH4(i#~"
abbrev f177:=Fn1 2 9 4 f177C
def f178l0:=Qf "Esonrq9B@a<sLeprkte4hWamh]u`fgh]r!c3w)c4vx4fcy9;=bIr%_raz9~;"
def f178r0:=Qf "EJafr!c5J4fcK94iWa`fJLGQ+MH4PaQ9/fab%,b&rZi]RaGT+M%_SaT`fLeUHkVemi]W94Naf4O0^b%,b&f,Nmi]O9<S;<P;=c;gi]rgXomYH98aZc].a4,dFZ;E/gi]mc]/4d[#~~;" [.o 43 (.mkst zG [])]
def f178C:=QH f178l0 f178r0 "EcWa[Gj^)c0j&e4(k9]omlH98aEo]Zc]na4daoFm~4fVe9^Jp[9?a=a;>b~~" [.o 13 (.mkst zG [])]
abbrev f178:ZR:=⟨1,45,[.cell 2 4 true,.tmp 3],f178C,false⟩
def f179l0:=Qf "Eronqp9B@a<rLeoqkse4gWamg]t9gg]rgu4hav`homwH`h4(yFx~;=bIq%_qaz9~;"
def f179r0:=Qf "Ee[$"
def f179C:=QH f179l0 f179r0 "Ee[Gi^Jiopj%!cE94ebdFk;^abRblmr!c1nJo[9?a=a;>b~;"
abbrev f179:=Fn1 2 26 4 f179C
def f180l0:=Qf "Emonlk9B@a<mLbjlln_fco`dafJqIpr4das`dontH9DCu~;=bEwIl%_law9~;"
def f180l1:=Qf "ELonKJ9B@c<LLbzKlM_icN9cgaiK;eOP4gcQ9;=dIK%_KaR9~;"
def f180r0:=Qf "ESag4ccS$"
def f180r1:=QH f180l1 f180r0 "Exad)c2&hx4gcy9^Jz[9?a=c;>b~"
def f180C:=QH f180l0 f180r1 "EcVe9[Gj^Jj[9?a=a;>b~;"
abbrev f180:=Fn1 1 36 2 f180C
def f182l0:=Qf "ERonQP9B@b<RLeOQkSe4fWamf]T`dgf]r!c3V)c4UW4dcX9;=cIQ%_QaY9~;"
def f182r0:=Qf "EZad4ccZ$"
def f182r1:=Qf "E.g[eQe.4cc/$"
def f182C:=HQ f182l0 f182r0 f182r1 "daVeGhe[h[b+i%daj5kebbhbbb+m&r*kn&[o5pebdhb,Jr+sH*pt&_gau94cVe$Ewe[h[b+x%day5zebbhbbb+K&f*zL&_vaM94dVe9ebdhb,JO[9?a=b;>b~Cv;<g;=a>c~"
abbrev f182:=Fn1 1 45 2 f182C
def f183l0:=Qf "Eh^Jhopi%^j5kabJlopmH*kn&b9B@a<o;^LepHkq(bLesHktesNru4gav:EKagonKH4JaL9cf^LeNHkOeQePK;eMQ^TeS%b&c4fcR4acT:EVagopVH4UaW9cfabLeYHkZeQe.K;eX/abTe1%b&c4fc04bc2:4w^4xTew%b&c4ya_zTey%b&c4acx4bcz:<U;<J;=c;=b;"
def f183r0:=Qf "E3cf^K;e34abK;e564ec7$"
def f183C:=QH f183l0 f183r0 "EeVe9Ve9?a=a>b~;"
abbrev f183:=Fn1 2 53 4 f183C
def f184l0:=Qf "Emonlk9B@a<malLejlkoe4fWa4(nmf]pGrad]gf]gf]t!c6t&Zu4qavOqaOqbLersnyew`d]efdhf,r!c5LLezJfNd8a9efdhf,JQ+RH`d]LeTUfVdnWb&e9CS~~=bIl%_laX9~;" [.n (.stm 31 29)]
def f184r0:=Qf "EYad4cYYe$"
def f184C:=QH f184l0 f184r0 "EcVeGg^Jg8a4daiGj^Jj[9?a=a;>b~;" [.o 8 (.mkg 56 4 zT (.t 7))]
abbrev f184:=Fn1 1 42 2 f184C
def f185l0:=Qf "Eronqp9B@a<rLboqls_lat`lonu%^v6walajPyfzdjJbJKoqxL*w&aM98aZg]Oa4hbhFN;EPajPPfQdjR[lLeST4jaU9~=bIq%_qaV9~;" [.o 31 (.mkst zG [])]
def f185r0:=Qf "EWajgf]r3XPWnZeY9iiemg].4h[#~"
def f185C:=QH f185l0 f185r0 "EddaEfdcWa[Gmgd]r3m4iXanien94jai`bJo[9?a=a;>b~~"
abbrev f185:ZR:=⟨3,44,[.cell 6 4 true,.tmp 7],f185C,false⟩
def f186C:=Qf "daVf[Ghg[ergh4(i9]omjH9]4cVf4dalFk~Eng[et!c8&hn%_maoOmaOm_fap4gaqGsagpas4rat94cVf4,g$EvafJvopw%!cE4uax94cVf4,dFu;<r;=^f4cYyf4d[#~~;"
abbrev f186:=Fn2 1 25 2 3 f186C
def f187l0:=Qf "E:on989B@b<:Le79k;e4lWaml]<G>^gl]act!c8>?@4=aAO=aO=_acB4jaC`jpaD94ga&h4ha&bFE~;=cI9%_`|a9~;"
def f187r0:=Qf "E|[a4ga|_ha&a$"
def f187C:=QH f187l0 f187r0 "Ee,Ega&ha&bGmge]r!c9mpan9^ge]ac/c]qebr)c:ps4gat4ha&aFo;eedhe,Jv4iawGyeebhebb+z&IJ5KaiomLH*KM&_xaN9Beebhebb+P&gaQ5RaiomS%b*RT&_xaU9Beebhebb+W&jaX5YaionZ%c*Y.&_xa/9<x;<x;4ga&h4ha&b$E1eebhebb+2&g40a3`cp_4ca59C0;<x;=a4ja&a9eedhe,J7[9?a=b;>b~~~"
abbrev f187:ZR:=⟨3,69,[.tmp 6,.tmp 7],f187C,true⟩
def f188C:=Qf "daa&b9ebahbabole%daf5gebbhbbboli&jaj6kebbhbbbolm&g5gNk&anao6pebbhbbbolr&o5gNp&as7Ngt&b4cau9A;;"
abbrev f188:=Fn1 1 21 2 f188C
def f189C:=Qf "Edd[&hGia]dagd]t!c<ik&<4halOhaOh_fam4gan`gpao9^afedagd]r!c=tedehdeb/c]uebwQfxt!c?qry4(z:A;Cp;^afLfJKfLejMbedehdebINPLfJKfRenSbQ:^afLfTUfVejWb+XH9^afafI/%bt!c@Z.04(1FY;^4(2#~~~"
abbrev f189:ZR:=⟨2,48,[.tmp 4],f189C,true⟩
def f190C:=Qf "Ecda,[9ecagc]gd]sNgh4(i#~"
abbrev f190:=Fn1 2 9 4 f190C
def f191l0:=Qf "Epajakonpq9B@a<r;ajakIst8aEwojv&t8_laxGyac^alLfzJiKfge]xyLMonNH:alIP%_jaQ`l4kaR9<O~=b;" [.o 21 (.conv .u64 (.t 20)),.o 23 (.conv .i64 (.t 22))]
def f191r0:=Qf "ESajajaionTUaV5Wac^ajLfYZi.fge]xX/0+1H*W2&_gaS4ha3:A;"
def f191C:=QH f191l0 f191r0 "Ee,Eg[a&bGm^Jm4ian`i4j[4kao9?a=a>b~~"
abbrev f191:=Fn2 3 49 6 7 f191C
def f192l0:=Qf "Enonml9B@a<namLekmipe4eWa4daome]q9ebdhbd[dge]r!c=uLestnwev:;=bIm%_max9~;"
def f192r0:=Qf "8amc]y$" [.o 24 (.ldfz 1 0 4 3 4)]
def f192C:=QH f192l0 f192r0 "daWaGfebdhb,r!c>gebdmb,h9ebdhb,Jk[9?a=a;>b~;"
abbrev f192:ZR:=⟨1,25,[.cell 2 4 true],f192C,false⟩
def f195C:=Qf "EgVfGi^a[c^Jl8aGI[c+op9^4garFq;^Js4hat9^abTfu&cv^acTfxy&c8_^J:EK^^JLah8c8dGP^4gaP#~~~;" [.o 13 (.slcc 5 (.t 8) (some (.t 9)) (.t 10) (.t 12)),.o 26 (.appM 64 5 (.t 22) (.t 25)),.o 31 (.slcx 5 (.t 27) (some (.t 29)) (some (.t 30))),.n (.clr 5 (.t 31))]
abbrev f195:ZR:=⟨3,33,[.tmp 6],f195C,true⟩
def f196l0:=Qf "ETonSR9B@c<Tcfeiagi]r!c=WQeXK;eUY4fcZ9=dIS%_Sa.9~;"
def f196l1:=Qf "E3on219B@e<3cgeiagi]r!c=6Qe7)cC&g8Qe9K;e4:4gc;9=fI2%_2a<9~;"
def f196r0:=Ko f196l1 "E/eiehiebpb0[9?a=e;"
def f196r1:=Qf "E=Iu%_ua=9"
def f196l2:=HQ f196l0 f196r0 f196r1 "Evonut9B@a<vLfsukwf4iWcmiafx9eiehiebopz%iaJ6KeiehiebonM&=*K&aN98aZc]Pa4,dFO;EQeiehieb[9?a=c;>b~;=b>c~;" [.o 32 (.mkst zG [])]
def f196r2:=Qf "E>afagRb>?r!c1@4jcA`jJBopC%i98aZc]Ea4,dFD;E|^j)cC&j|a4kWamk]|b`jJ|cG|f+|dH4|(|f9)cC&o&emk]|gG|i+|d%_|ha|i`jLe|jHk|kemk]|l9C|h;<|e;=g;gk]rg|m4la|n`lom|oH98bE|ralZc]|qa4da|rF|p~gk]mc]|s4d[#~~~" [.o 66 (.mkst zG []),.o 83 (.mkst zG [])]
def f196C:=QH f196l2 f196r2 "EcWa[Gm^r!cBm4(n9]omoH98aEr]Zc]qa4darFp~4fVe4gVe9^Js[9?a=a;>b~~" [.o 16 (.mkst zG [])]
abbrev f196:ZR:=⟨1,86,[.cell 2 4 true,.tmp 3],f196C,false⟩
def f197l0:=Qf "Emonlk9B@a<malLfjlkof4eWc4danm(fp9e(ge]rgr4fas`fomtH`f4cavFu~Exe(ge]r!c9y4waz94cbb$EKeeeheeb+L%^M6NeeeheebonP&O*N&aQaR6SeeeheebopU%!oA*S&aV4JaW94cbh$EYadopY%^Z5.^adob0%bLf/1f2ak3ee(ge]sN46oq7H*.8&_Xa9:4cbfFX;<J;<w;=c~=bIl%_la:9~;"
def f197r0:=Qf "Ec[$"
def f197C:=QH f197l0 f197r0 "Ec[Gg^Jgoph%!cE94cbdFi;^Jj[9?a=a;>b~;"
abbrev f197:=Fn1 1 56 2 f197C
def f198C:=Qf "EeWa9^ab0^b%,bf,gme]h#~"
abbrev f198:ZR:=⟨2,8,[.cell 4 4 true],f198C,false⟩
def f199C:=Qf "Ecda,Wa[Glgd]r!c7l4kamOkaOk_gcn4hao`hompH98aEsahZe]ra4fasFq;gc]s|et&iGwecdhc,Lex%bkyer!c7z4vaJOvaOv_icK4jaL`jomMH98bEPajZe]Oa4faPFN;ERaiag)cERS4QaTOQaOQ_gcU4jaV`jomWH98cEZajZe]Ya4faZFX~ecdhc,Le/Hk0emc]19~;Cu;agJ2+3H9gc]me]54f[F4;E7agr!cA746a8O6aO6bmd]94ha:`hom;H98dE>ahZe]=a4fa>F<;gc]gd]Re?@s4&iAme]B4f[#~~~~" [.o 17 (.mkst zG []),.o 31 (.mkst zG []),.o 41 (.mkst zG []),.o 58 (.mkst zG [])]
abbrev f199:ZR:=⟨2,64,[.cell 4 4 true,.tmp 5],f199C,false⟩
def f200l0:=Qf "EJonzy9B@a<JLfxzkKf4kWcmkafL`igkaf)c:MN4iaO9;=bIz%_zaP9~;"
def f200r0:=Qf "EQair!,QORaOR_ecS4faT$"
def f200C:=QH f200l0 f200r0 "EeVf[Gl^r!cBl4gam`gomnH`g4eVf4fapFo~abr!cBq4har`homsH`h4eVf4fauFt~^r!dav4iaw`bJx[9?a=a;>b~~;"
abbrev f200:=Fn2 2 37 4 5 f200C
def f201l0:=Qf "Ejonih9B@a<jLfgikkf4fWcmfafl`defagf]r!c=oefehfeb/c]pebrQfs8a4dau:;=bEvIi%_iav9~;" [.o 20 (.appM 64 5 (.t 12) (.t 19))]
def f201r0:=Qf "Ewad4caw$"
def f201C:=QH f201l0 f201r0 "Eca&h`&hGg^Jg[9?a=a;>b~;"
abbrev f201:ZR:=⟨1,23,[.tmp 2],f201C,true⟩
def f202C:=Qf "EcVf[9^)dde&>94cVf4,hFf;^Jgoph%!cE94cVf4,dFi;^4cYjf4d[#~~"
abbrev f202:=Fn2 1 10 2 3 f202C
def f203C:=Qf "d^&b9ebehbebone&Oaf6gebehbebopi%!oA*g&aj4cak#~"
abbrev f203:=Fn1 1 11 2 f203C
def f204C:=Qf "E(&b9^ab)defgoqhH4(i#~"
abbrev f204:=Fn1 2 9 4 f204C
def f205l0:=Qf "Ejonih9B@a<jai4fak`[^fLfmniofwlp`f4(rFq~=bIi%_ias9~;"
def f205r0:=Qf "E(&d$"
def f205C:=QH f205l0 f205r0 "Ee[Gg^Jg[9?a=a;>b~"
abbrev f205:=Fn1 2 19 4 f205C
def f206C:=Qf "Eca&b9^r.d8aEgomf%d4cag#~" [.o 5 (.fld 3 1 false (.t 4))]
abbrev f206:=Fn1 1 7 2 f206C
def f207l0:=Qf "Evonut9B@a<vLesukwe4gWamg]x9gg]ab)dgyzpaJ94(&bFK~=bIu%_uaL9~;"
def f207r0:=Qf "E(&a$"
def f207C:=QH f207l0 f207r0 "EcdaE(&bGhecahcab+i%daj5kabecbhcbbwlnpao*kp&b94(&bFq;ecdhc,Js[9?a=a;>b~;"
abbrev f207:=Fn1 2 29 4 f207C
def f214C:=Qf "E(&b9^ab)dofgoqhH4(i#~"
abbrev f214:=Fn1 2 9 4 f214C
def f215l0:=Qf "Ejonih9B@a<jai4fak`[^fLemnkoewlp`f4(rFq~=bIi%_ias9~;"
def f215r0:=Qf "E(&d$"
def f215C:=QH f215l0 f215r0 "Ee[Gg^Jg[9?a=a;>b~"
abbrev f215:=Fn1 2 19 4 f215C
def f231C:=Qf "d^&bGee[h[b+f%d9ebbhbbb+i&raj6kebbhbbb+m&o*k&anao5pebdhb,Jr+sH*pt&_cauFg;e[h[bomw%c94ca&bFx;ebchbcb+z%caJ6Kebchbcb+M%d*K&aNaO6Pebchbcb+R%e*P&aSaT6Uebchbcb+WH*U&aX4daY9ebchbcb+.%[/60ebchbcb+2%f*0&a3a465ebbhbbb+7&Sa859ebchbcb+;%e65N9<&b*5&a=a>6?ada@5Aebbhbbbr!dOC6?NAD&b*?&aE4ca|a#~~;"
abbrev f231:=Fn1 1 68 2 f231C
def f232l0:=Qf "Emad^znonmo9B@a<p;Es^adMstonu&uav6w^adMxyopz&v*w&aJ94ca&bFK;=_qad4rIq%_dar9~"
def f232r0:=Qf "Eca&a$"
def f232C:=QH f232l0 f232r0 "Eca&bGe^zeonf%dag6h^Ui&c%comj&.*h&ak94ca&bFl;4,c9?a=a;>b~;"
abbrev f232:=Fn1 1 28 2 f232C
def f233C:=Qf "da[Geg[er|>e4daf`domgH`d4caiFh~g[er!dQjpak94cbnFl;g[er!dWmpan94cbkFo;4c[#~~;"
abbrev f233:=Fn1 1 15 2 f233C
def f234C:=Qf "d^&b9g[er!dRdJe+fH4cag#~"
abbrev f234:=Fn1 1 7 2 f234C
def f235C:=Qf "daVe9g[e)dSd%_cce#~"
abbrev f235:=Fn1 1 5 2 f235C
def f236l0:=Qf "EkahagJlonkm9B@a<n;EqagahLeqrfsalt[b+uv9cfagahLeyzkJeQeKK;exL4fcM9Cw;=_Ih4pIo%_hap9~"
def f236r0:=Qf "ENafr!dUN4ecO$"
def f236C:=QH f236l0 f236r0 "EcdaEeVe9VeGigc]r!dTi4gcj94h[9?a=a;>b~~"
abbrev f236:=Fn1 2 32 4 f236C
def f237l0:=Qf "Eh]ebdhb,Jjonhk9B@a<l;Eocdebdhbd[eLeqrkser!dTtK;eou4dcv9=_m]4nIm%_(n9~"
def f237r0:=Qf "Ewad4ccw$"
def f237C:=QH f237l0 f237r0 "daVeGfg[eQef4dcg94e[9?a=a;>b~;"
abbrev f237:=Fn1 1 23 2 f237C
def f238l0:=Qf "Ef]^Jgonfh9B@a<i;Elad^]Lemnkoe)dVlp4dcq9=_j]4kIj%_(k9~"
def f238r0:=Qf "Erad4ccr$"
def f238C:=QH f238l0 f238r0 "EcVe9Ve9[9?a=a;>b~;"
abbrev f238:=Fn1 1 18 2 f238C
def f239l0:=Qf "Ejah^Jkonjl9B@a<m;Epgd]^ahLeqrkses|xpt4iau:agpavaw5xaiooyH*xz&b94ga&a`ionKH9cfgd]QeNK;eMO4fcP9CL~CJ;cf^ahLeRSkTeQeUK;eQV4fcW9~=_nah4oIn%_hao9~"
def f239r0:=Qf "EXagpaX9cfgd]Qe.K;eZ/4fc09CY;af4ec1#~"
def f239C:=QH f239l0 f239r0 "Ed,Ve9Ve`&b9[9?a=a;>b~~"
abbrev f239:=Fn1 2 47 4 f239C
def f240l0:=Qf "EwagafJxonwy9B@a<z;ELafagLeLMfNalOb+P%daQ5RafagLeSTfUblVbr|@W+X%d*RY&b94ca&bFZ;=_Jag4KIJ%_gaK9~"
def f240r0:=Qf "Eca&a$"
def f240C:=QH f240l0 f240r0 "d^&bGig[er!dXi4hajOhaOh_dWamd]k4(l9]omm%^n6og[egd]s|wpqpar*o&as94ca&bFt;g[er!dTu4fcv94g[9?a=a;>b~~;"
abbrev f240:=Fn1 1 43 2 f240C
def f241C:=Qf "daWa[Gig[er|>i4(j9]omkH98aEn]Zc]ma4danFl~Epg[er!dYp4IqOIOo_fWamf]r4gas`gomtH98bEwagZc]va4dawFu;gf]r9x4hay`homzH98cELahZc]Ka4daLFJ~gf]mc]M4d[#~~~" [.o 12 (.mkst zG []),.o 21 (.mkst zG []),.o 27 (.mkst zG [])]
abbrev f241:ZR:=⟨1,30,[.cell 2 4 true,.tmp 3],f241C,false⟩
def f242l0:=Qf "Epafebdhb,Jronps9B@a<t;Exebdhbd[fLeyzkJer!dYK4waLOwaOw_gWamg]M4haN`homOH98aERahZc]Qa4daRFP;cegg]QeTK;eSU4ecV9~=_uaf4vIu%_fav9~" [.o 33 (.mkst zG [])]
def f242r0:=Qf "EWebbhbb[es|8XY4iWami]ZG/ebbhbbbr|@0+1%d4.a2G4gi]r!dZ443a5O3aO3_jWamj]64ka79gj]mc]84d[#~E:ebbhbbb+;&f4`<9]r!d.=O>aO>bmc]?4da@$EBebbhbbb+C&jaD6Eebbhbbb+|b&g*E&a|ca|d6|eebbhbbb+|g&o*|e&a|h4Aa|i9gi]r!d6|jO|kaO|kbmc]|l4da|m$E|oebbhbbb+|p&i4|na|q9]Le|rHk|se]Le|u%bk|ve)d?|t|wO|xaO|xbmc]|y4da|z:A;C|n;<A;<9;<.;=cgi]mc]|J4d[#~;"
def f242C:=QH f242l0 f242r0 "daWa[Gle[h[bomm%d9g[emc]o4d[Fn;4eVe94f[9?a=a;>b~~"
abbrev f242:ZR:=⟨1,94,[.cell 2 4 true,.tmp 3],f242C,false⟩
def f243C:=Qf "daW^&bGfebdhb,LegHkhe4eWame]iGkebbhbbb+l&zam5nge]s|Do&l*np&_jaq9eedhe,LesHktemc]u4da&a$Ewebbhbbb+x&Jay5zge]s|DJ&l*zK&_vaL9eedhe,LeN%bkOemc]P4da&a$ERebbhbbb+S&KaT5Uge]s|DV&p*UW&[X5Yeedhe,Le.%bk/eebdhb,Le2%bk3es|w04*Y5&_Qa6:eedhe,Le8Hk9emc]:4da&a$E<ebbhbbb+=&La>5?ge]s|D@&q*?A&[B5Ceedhe,LeE%bk|]ebdhb,Le|d%bk|eeQe|fs|8&m|gs|w|b|h*C|i&_;a|j:eedhe,Le|lHk|memc]|n4da&a$E|pebbhbbb+|q&Ma|r5|sge]s|D|t&n*|s|u&[|v5|webdhb,Le|y%bk|zeeedhe,Le|L%bk|MeQe|Ns|8&m|Os|w|J|P*|w|Q&_|I|R:eedhe,Le|THk|Uemc]|V4da&a$E|Xebbhbbb+|Y&Na|Z5|.ge]s|D|/&n*|.|0&_|Wa|19eedhe,Le|3Hk|4emc]|54da&aF|W;<|o;<~<Q;<v;<j;=ag[emc]|64da&b#~~"
abbrev f243:ZR:=⟨1,119,[.cell 2 4 true,.tmp 3],f243C,false⟩
def f244l0:=Qf "Epag^Jqonpr9B@a<s;Evaf^agLewxkyer!d1z)d2vJ4fcK9=_tag4uIt%_gau9~"
def f244r0:=Qf "ELafr!d5L4hWamh]M9gh]r9NomOH98aZc]Qa4,dFP;ERgh]mc]R4d[#~;" [.o 33 (.mkst zG [])]
def f244C:=QH f244l0 f244r0 "EcWa[Gi^q!d/)d0ij4(k9]omlH98aEo]Zc]na4daoFm~4fVe94g[9?a=a;>b~~" [.o 13 (.mkst zG [])]
abbrev f244:ZR:=⟨1,35,[.cell 2 4 true,.tmp 3],f244C,false⟩
def f245C:=Qf "4aWa9s|8&r&ema]b#~"
abbrev f245:ZR:=⟨0,2,[.cell 0 4 true],f245C,false⟩
def f246l0:=Qf "Ekaf^Jlonkm9B@a<n;Eq^afLeqrkser9t4gau`gomvH`g4(xFw~=_If4pIo%_fap9~"
def f246r0:=Qf "Eygd]r9y4(z$"
def f246C:=QH f246l0 f246r0 "Ed,[Gh^Jhopi%!cE94ebdFj;4f[9?a=a;>b~;"
abbrev f246:=Fn1 2 26 4 f246C
def f247l0:=Qf "EM]ebdhb,JOonMP9B@a<Q;ETadebdhbd[eLeVWkXer!d1Y)d2TZ4dc.9=_R]4SIR%_(S9~"
def f247r0:=Qf "E/ad4cc/$"
def f247C:=QH f247l0 f247r0 "daVeGfe[h[b+g%dah5iebbhbbb+k&r*il&[m5nebdhb,Jp+qH*nr&b94cVeFs;e[h[bomu%dav6webbhbbbomy&f*w&az9g[eQeK4ccLFJ;4dVe94e[9?a=a;>b~~;"
abbrev f247:=Fn1 1 45 2 f247C
def f248l0:=Qf "EkagabJlonkm9B@a<n;Eqafa[gLerskte)d3qu4fcv9=_Ig4pIo%_gap9~"
def f248r0:=Qf "Ewaf4ecw$"
def f248C:=QH f248l0 f248r0 "EeVe98aEi^K;ehi4fcj94g[9?a=a;>b~;" [.o 7 (.mksl 4 [])]
abbrev f248:=Fn1 2 23 4 f248C
def f249l0:=Qf "EIg^Jponoq9B@a<r;Eu^agLeuvkwegd]s|wxypaz:cf^agLeLMkNeQeOK;eKP4fcQ9CJ;=_sag4tIs%_gat9~"
def f249r0:=Qf "ERaf4ecR$"
def f249C:=QH f249l0 f249r0 "Ed,VeGh^gd])d4hipaj9^gd])dVlm4ecnFk;4fVe94g[9?a=a;>b~~"
abbrev f249:=Fn1 2 35 4 f249C
def f250l0:=Qf "Egaf^Jhongi9B@a<j;Em^afLemnkoegd]s|wpq:4(&aFr;=_kaf4lIk%_fal9~"
def f250r0:=Qf "E(&b$"
def f250C:=QH f250l0 f250r0 "Edd[&b9[9?a=a;>b~"
abbrev f250:=Fn1 2 18 4 f250C
def f251C:=Qf "EcWa9^Jd+eH9s|8&r&emc]gFf;^Jh+i%b9^LekHklemc]mFj;8aEo^K;eno0^b%,b&f,pmc]q#~~" [.o 13 (.mksl 4 [])]
abbrev f251:ZR:=⟨1,17,[.cell 2 4 true],f251C,false⟩
def f252C:=Qf "daWa[Ghg[er!d7h4gaiOgaOg_ecj4fak`fomlH98aEIfZc]na4daoFm;]r!d<pOqaOqbmc]r4das#~~" [.o 13 (.mkst zG [])]
abbrev f252:ZR:=⟨1,19,[.cell 2 4 true,.tmp 3],f252C,false⟩
def f253C:=Qf "daVf[Ggg[er9g4(h9]omiH9]4cVf4dakFj~g[er!d8lpam94cVf4,gFn;g[et!d:&?o%_fcp`fJqopr%!cE94cVf4,dFs;af4cct4d[#~~~"
abbrev f253:=Fn2 1 20 2 3 f253C
def f254l0:=Qf "ET]adonTU9B@a<V;EYebdhbd[eLeZ.k/er!d80pa194ca&bF2;=_W]4XIW%_(X9~"
def f254r0:=Qf "Eca&a$"
def f254C:=QH f254l0 f254r0 "d^&bGfg[er!d9fpag94ca&aFh;ebdhb,Jj4dak9ebbhbbb+m&jan5Idonp%c*oq&[r6sebbhbbb+u&gav5wadomx%b6sNwy&b*s&azaJ6Kebbhbbb+M&IN5OadomPH6KNOQ&b*K&aR94ca&bFS;4e[9?a=a;>b~~;"
abbrev f254:=Fn1 1 48 2 f254C
def f255C:=Qf "daa&b9ebahbabole%daf5gebbhbbboli&jaj6kebbhbbbolm&g5gNk&anao6pebbhbbbolr&o5gNp&as7Ngt&b4cau9A;;"
abbrev f255:=Fn1 1 21 2 f255C
def f256l0:=Qf "Euaheedhe,Jwonux9B@a<y;EKa]edhed[hLeMNkO(ct!d:KPQ4acR9=_zah4JIz%_haJ9~"
def f256r0:=Qf "ES^4gcS$"
def f256C:=QH f256l0 f256r0 "Ee,EgVfGige]r!d9ipaj9^ge]act!d;lmn4gcoFk;eebhebb+q&g`cpbs4cat9Cr;4h[9?a=a;>b~~"
abbrev f256:=Fn1 3 36 6 f256C
def f257l0:=Qf "Emaj^Jnonmo9B@a<p;Esge]^ajLftufvakwes|xsx4kay:aipazaJ5KakonLH*KM&b9chge]ac/c]PebQQfRKCfOS4hcT94ia&a9;CN;^ajLfUVkWf4lWcmlafX`k+YH9elehle[cI/0elemleb194ia&a9;CZ;elehlebom4H9chglafQf7KCf684hc99C5~~;=_qaj4rIq%_jar9~"
def f257r0:=Qf "E:aipa:9chge]ac/c]=eb>Qf?KCf<@4hcA9C~ah4gcB#~"
def f257C:=QH f257l0 f257r0 "Ee,EgVf9Vf`&b9[9?a=a;>b~~"
abbrev f257:=Fn1 3 64 6 f257C
def f258C:=Qf "EcWa[Gi^r!d=i4(j9]omkH98aEn]Zc]ma4danFl~^r!d>o4fcp`fJqopr%i98bZc]ta4,dFs;Euafs|8&ju4gWamg]v`fJw+xH9s|8&o&emg]z9Cy;afJJ+K%b`fLeMHkNemg]O9CL;gg]r9P4haQ`homRH98cEUahZc]Ta4daUFS~gg]mc]V4d[#~~~~;" [.o 12 (.mkst zG []),.o 19 (.mkst zG []),.o 36 (.mkst zG [])]
abbrev f258:ZR:=⟨1,39,[.cell 2 4 true,.tmp 3],f258C,false⟩
def f259l0:=Qf "Eiad^Jjonik9B@a<l;Eo^adLfopfqakrer9s4(t9]omuH9]4cawFv~^adLfxyfzakJer!d9K94cbbFL;^adLfMNfOelPb+Q%^R6S^adLfTUfVelWbonX&O*S&aYaZ6.^adLf/0f1el2bop3%!oA*.&a494cbhF5;adop6%^758^adob:%bLf9;f<ak=e^adLf?@fAakBes|x>CoqDH*8E&b:4cbfF|a~~=_mad4nIm%_dan9~"
def f259r0:=Qf "Ec[$"
def f259C:=QH f259l0 f259r0 "Ec[Gf^Jfopg%!cE94cbdFh;4d[9?a=a;>b~;"
abbrev f259:=Fn1 1 68 2 f259C
def f260l0:=Qf "EIf^]Lfpqfrelsbonotau5vadJwonx%j*vy&b9B@c<z;ELcd^]LfMNfOakPeQeQK;eLR4dcS9=d4Jaf4KIJ%_faK9~"
def f260r0:=Qf "Em]Im%_(n9"
def f260l1:=QH f260l0 f260r0 "Ei]^Jjonik9B@a<l;4f[9?a=c;=b>b~"
def f260l2:=Qf "EZah^agLf./f0el1bpb2onZ3a455adJ6on7%j*58&b9B@g<9;E<cd^agLf=>f?ak@eQeAs|8&gBQeCK;e<D4dcE9=h4:ah4;I:%_ha;9~"
def f260r1:=Qf "EXagIX%_gaY9"
def f260l3:=QH f260l2 f260r1 "ETag^JUonTV9B@e<W;4h[9?a=g;=f>b~"
def f260r2:=Qf "E|^d4cc|a$"
def f260r3:=QH f260l3 f260r2 "Eg[9?a=e;>b;"
def f260C:=QH f260l1 f260r3 "EcVe9Ve9[9?a=a;>b~;"
abbrev f260:=Fn1 1 68 2 f260C
def f261C:=Qf "Ecda,Wa[Gmgd]r!d7m4lanOlaOl_gco4hap`homqH98aEtahZe]sa4fatFr;gc]s|Du&iGxecdhc,Ley%bkzer!d7J4waKOwaOw_icL4jaM`jomNH98bEQajZe]Pa4faQFO;ESaiag)d@ST4RaUORaOR_gcV4jaW`jomXH98cE.ajZe]Za4fa.FY~ecdhc,Le0Hk1emc]29~;Cv;agJ3+4H9gc]me]64f[F5;E8agr!d<847a9O7aO7_kWamk]:4ha;`hom<H98dE?ahZe]>a4fa?F=;gc]gk]Re@As|8&iBme]C4f[#~~~~" [.o 18 (.mkst zG []),.o 32 (.mkst zG []),.o 42 (.mkst zG []),.o 59 (.mkst zG [])]
abbrev f261:ZR:=⟨2,65,[.cell 4 4 true,.tmp 5],f261C,false⟩
def f262l0:=Qf "EyajabJzonyJ9B@a<K;ENaia[jLfOPfQakR([jLfTUfVelWbt!d;NSX4icY:=_Laj4MIL%_jaM9~"
def f262r0:=Qf "EZair!dAZ4ka.`kom/H`k4eVf4fa1F0~ai4ec24f[#~"
def f262C:=QH f262l0 f262r0 "EeVf[Gl^r!d=l4gam`gomnH`g4eVf4fapFo~abr!d=q4har`homsH`h4eVf4fauFt~8aEw^KCfvw4icx94j[9?a=a;>b~~;" [.o 21 (.mksl 5 [])]
abbrev f262:=Fn2 2 48 4 5 f262C
def f263l0:=Qf "E(d^Jfoneg9B@a<h;Ek^adLfklfmelnbono&Oap6q^adLfrsftelubopv%!oA*q&aw94cbhFx;=_iad4jIi%_daj9~"
def f263r0:=Qf "Ey^Jyopz%!cE94cbdFJ;4c[#~"
def f263C:=QH f263l0 f263r0 "Ec[9[9?a=a;>b~"
abbrev f263:=Fn1 1 27 2 f263C
def f265l0:=Qf "Ef]^Jgonfh9B@a<i;Elcd^]Lemnkoer!dTpK;elq4dcr9=_j]4kIj%_(k9~"
def f265r0:=Qf "Esadr!dUs4cct$"
def f265C:=QH f265l0 f265r0 "EcVe9Ve9[9?a=a;>b~;"
abbrev f265:=Fn1 1 20 2 f265C
def f281l0:=Qf "Ehag^Jionhjak5lagonm%i*ln&b9B@a<o;Ercf^agLbstlu[b)eovwQexK;ery4fcz9=_pag4qIp%_gaq9~"
def f281r0:=Qf "EJaf4ecJ$"
def f281C:=QH f281l0 f281r0 "EeVe9Ve9[9?a=a;>b~;"
abbrev f281:=Fn1 2 27 4 f281C
def f282C:=Qf "EeWaGk^abu!epkH%bl4jamOjaOj_fWamf]n4gaoGqgf]r!dXq4parOpaOp_hWamh]s4iat`iomu%^v6wgh]r!dWxpay*w&az9q!eqLeKHkLeme]MFJ;gh]me]N#~~;"
abbrev f282:ZR:=⟨2,31,[.cell 4 4 true],f282C,false⟩
def f283C:=Qf "EiWa[9[Gpa[aJqonpr9^abLbtulvb8a4kax9Cs;Eyq!eq4lcy`coqz%(J6KakoeL%d+MH*K&aN`lakodQ%dalJSoeRTLePUkV(bIX%bmi]W4jaYFO;akodZ%doe.%l4ka/G1^abI2%[cI4%[du!ep135640a7O0aO0_mWamm]84na9G;ak+;H4:a<9gm]Qe=s|8&y>anmi]?4ja@$EBak+B%_AaC9gm]QeDs|8&mEanmi]|a4ja|b$E|dak+|d%ca|e5|fadpa|g*|f|h&_|ca|i9gm]Qe|js|8&g|kanmi]|l4ja|mF|c;<A;<:;=aE|o^anacI|q%[du!ep|o|p|r|s4|na|tO|naO|n_oWamo]|u4na|vG|xak+|x%da|y6|zak+|J%e*|z&a|K4|wa|L9gm]go]Re|M|Ns|8&p|Oanmi]|P4ja|Q$E|Sak+|S%f4|Ra|T9gm]go]Qe|Vs|8&m|WRe|U|Xs|8&q|Yanmi]|Z4ja|.:A;E|0ak+|0%g4|/a|19gm]go]Re|2|3s|8&n|4anmi]|54ja|6$E|8ak+|8%ha|95|:adpa|;*|:|<&_|7a|=9gm]go]Re|>|?s|8&f|@anmi]|A4ja|B$E|Dak+|D%ia|E5!c^dpa!cb*!ca!cc&_|Ca!cd9gm]go]Re!ce!cfs|8&i!cganmi]!ch4ja!ci$E!ckak+!ck%ja!cl5!cmadpa!cn*!cm!co&_!cja!cp9gm]go]Re!cq!crs|8&j!csanmi]!ct4ja!cuF!cj;<|C;<|7;<|/;<|R;<|w;=bgm]go]Re!cv!cws|8&l!cxanmi]!cy4ja!cz#~~~~~;" [.o 23 (.conv .i64 (.t 22))]
abbrev f283:ZR:=⟨4,160,[.cell 8 4 true,.tmp 9],f283C,false⟩
def f284C:=Qf "4aVeGds|X&@%bs|X&A%_bWa4cWam[edmc]e9s|X&B%cs|X&C%cs|X&D%ds|X&E%ds|X&S%eg[es|X&|a%fs|X&|bHg[eQens|8&Pog[egc]Reqrs|8&Qs8a4acu:A~;" [.o 20 (.mksl 4 [.t 5,.t 6,.t 7,.t 8,.t 9,.t 10,.t 11,.t 12,.t 15,.t 19])]
abbrev f284:=Fn1 0 21 0 f284C
def f292C:=Qf "Edd[&b[Gj^gd])ezjk4ialOiaOi_gcm4han`homoH`h4(&_faqFp;^r!dUrag)eOstgd])eWuv4(w4f[:A~~"
abbrev f292:=Fn2 2 23 4 5 f292C
def f293C:=Qf "Ed,Ve[9^gd]Qeh)eJgiOjaOj_eck4fal#~"
abbrev f293:=Fn2 2 12 4 5 f293C
def f294C:=Qf "EeVe[Gk^Jkopl%?94eVe4fbdFm;8aEo^K;enIbK;epq4gcr`gr!eKs4hat`homuH`h4eVe4fawFv~agr!dCx4icy`ir!eLz4jaJ`jomKH`j4eVe4faMFL~ai4ecN4f[#~~~;" [.o 13 (.mksl 4 [])]
abbrev f294:=Fn2 2 31 4 5 f294C
def f295l0:=Qf "Efad^Jgonfh9B@a<i;El^adLelmkner!dPo4(p9]omqH9]4casFr~=_jad4kIj%_dak9~"
def f295r0:=Qf "Ec[$"
def f295C:=QH f295l0 f295r0 "Ec[9[9?a=a;>b~"
abbrev f295:=Fn1 1 19 2 f295C
def f296l0:=Qf "Ef]^Jgonfh9B@a<i;El^]Lelmkner!eMo`dIq%_dar9Cp;=_j]4kIj%_(k9~"
def f296r0:=Qf "Es^Jsopt%!cEau6vadopw%e*v&axay6z^r!eNJJKopL%i*z&aM94cbdFN;4c[#~"
def f296C:=QH f296l0 f296r0 "Ec[9[9[9?a=a;>b~;"
abbrev f296:=Fn1 1 31 2 f296C
def f297C:=Qf "d^&b9g[es|Dd&j]6fg[es|Dg&g*f&ah4cai#~"
abbrev f297:=Fn1 1 9 2 f297C
def f298l0:=Qf "EQaiagJRonQS9B@c<T;EWadagaiLfXYfZak.e)dVW/4dc09=d4Uai4VIU%_iaV9~"
def f298r0:=Qf "En]In%_(o9"
def f298l1:=QH f298l0 f298r0 "Ej]^Jkonjl9B@a<m;Ep^]Lepqkre4fWamf]s9gf]s|Dt&i9efdhf,Lew%bkxemf]y9gf]r!eMzpaJ9@bCK;<u;EMgf]r!d7M4LaNOLaOL_gcO4haP94i[9?a=c~~=b>b~"
def f298r1:=Qf "E1ad4cc1$"
def f298C:=QH f298l1 f298r1 "EcVe9Ve9[9?a=a;>b~;"
abbrev f298:=Fn1 1 47 2 f298C
def f299l0:=Qf "EjagabJkonjl9B@a<m;Epafap5qa[gLerskter!ePupav*qw&_fax9=_nag4oIn%_gao9~"
def f299l1:=Qf "EMaiabJNonMO9B@e<P;ES^a[iLeTUkVe)eWSWpaXaY5Z^a[iLe/0k1e)eX.2*Z3&b9^a[iLe67k8e)dV594ac:94ha&a9;C4;=f4Qai4RIQ%_iaR9~"
def f299l2:=Ko f299l1 "ELah9B@c<L;4ha&b94i[9?a=e~=d;"
def f299r0:=Qf "E;^4ec;$"
def f299r1:=QH f299l2 f299r0 "Eyaf9^ab)eQzJ4ecKFy;4ha&a9?a=c;>b~"
def f299C:=QH f299l0 f299r1 "EeVe`&a9[9?a=a;>b~;"
abbrev f299:=Fn1 2 57 4 f299C
def f300C:=Qf "d^&b9g[er!eMd]6fg[es|Dg&f*f&ahai6jg[es|Dk&i*j&al4cam#~"
abbrev f300:=Fn1 1 13 2 f300C
def f301l0:=Qf "EragabJsonrt9B@a<u;Exafa[gLeyzkJer!eRKag8a9=_vag4wIv%_gaw9~" [.n (.upm true (.t 23) (.t 28) (.t 29))]
def f301l1:=Qf "ETaj^JUonTV9B@c<W;EZaiaf^ajLe/0k1er!eR28aE5LbZ4n5b&a9=d4Xaj4YIX%_jaY9~" [.o 49 (.lkm true false (.t 43) (.t 48) (.int .i64 0))]
def f301l2:=Qf "E|PanamJ|Qon|P|R9B@i<|S;E|VaiamanLb|W|Xl|YbLb|V|Zj|.bpa|/`iamanLb|2|3l|4bLb|1|5n|6b&a4ka&a9C|0;=j4|Tan4|UI|T%_na|U9~"
def f301r0:=Qf "E;alI;%_la<9"
def f301l3:=QH f301l2 f301r0 "E7alabJ8on799B@g<:;E=aialLb=>j?bpa@aA5Ba[lLeCDkEer!dN|^|b6|ca[lLe|d|ek|f(halLc|h|ik|jcait!eU|g|k|l5BN|c&a|m*B|n&b:aialLb|p|qn|rb&a4ka&a9C|o;4mVb`ialLb|s|tj|ub`[lLe|w|xk|y(halLc|J|Kk|Lcait!eV|z|M|N4mc|O:C|v;4n[9?a=i~~=h>b~"
def f301l4:=Ko f301l3 "E6ak9B@e<6;4ka&b94l[9?a=g~=f;"
def f301l5:=Qf "E|7apabJ|8on|7|99B@k<|:;E|=aiapLb|=|>j|?b9cI[pLe|B|Ck|DeQe|EK;e|A!ca4oc!cb9C|@;=l4|;ap4|<I|;%_pa|<9~"
def f301r1:=Qf "E!ccao4ec!cc$"
def f301r2:=QH f301l5 f301r1 "EoVe9[9?a=k;>b~"
def f301r3:=QH f301l4 f301r2 "Eka&a9?a=e;>b;"
def f301r4:=QH f301l1 f301r3 "ENa[f)eSNO4hcP`bJQ8a4iaS94j[9?a=c;>b~;" [.o 35 (.mkg 1 1 [.bool false] (.t 34))]
def f301C:=QH f301l0 f301r4 "EeVe98^q9[9?a=a;>b~;" [.o 16 (.mkm)]
abbrev f301:=Fn1 2 137 4 f301C
def f302l0:=Qf "Ev]ebdhb,Jxonvy9B@a<z;ELadebdhbd[eLeNOkPer!eRQILRIS&|c4daT9=_J]4KIJ%_(K9~"
def f302r0:=Qf "EUadIU&|d4caV$"
def f302C:=QH f302l0 f302r0 "d^&kGfe[h[b8aEiebchbcb8bElebdhb,Jm8cEpSbhko8dErebbhbbbIqsIt&|e4dau94e[9?a=a;>b~;" [.o 7 (.conv .u8 (.t 6)),.o 10 (.conv .u8 (.t 9)),.o 14 (.conv .u8 (.t 13)),.o 16 (.bstr (.t 15))]
abbrev f302:=Fn1 1 39 2 f302C
def f303l0:=Qf "Esai^agLetufvdlwbJxonsy9B@c<z;ELeha8aENa[^gLeOPfQdlR[iLeSTkUer!eRV8bEYQbXKibMYeha8c:=d4Jai4KIJ%_iaK9~" [.o 29 (.ldfm 7 0),.o 40 (.lkm true false (.t 30) (.t 39) (.int .i64 0)),.n (.stfm 7 0 42)]
def f303r0:=Qf "E0^agLe01k2er!eT34/a4O/aO/_jWamj]54ka6`k+7H`bgj]r!eR:8aE=ehbmhbb<9C8~cfghacQc?KPc>@4fcA9;" [.o 57 (.lkm true false (.t 54) (.t 56) (.int .i64 0))]
def f303r1:=Qf "EpagIp%_gaq9"
def f303l1:=HQ f303l0 f303r0 f303r1 "Elag^Jmonln9B@a<o;Er.lbb&d4hWkZhacrk94i[9?a=c;>b~=b>c~"
def f303r2:=Qf "EBaf4ecB$"
def f303C:=QH f303l1 f303r2 "EeVc9Vc9[9?a=a;>b~;"
abbrev f303:=Fn1 2 64 4 f303C
def f304C:=Qf "daWa[Gfg[er|>f4(g9]omhH98aEk]Zc]ja4dakFi~g[es|Dl&p9ebdhb,Leo%bkpemc]q4d[Fm;g[es|Dr&qpas98bZc]ua4,kFt;Evebdhb,Lew%bkxes|Dy&mpaz98cZc]Ka4,eFJ;ELebdhb,LeM%bfNdlObLePHkQemc]R4d[#~~~" [.o 9 (.mkst zG []),.o 20 (.mkst zG []),.o 27 (.mkst zG [])]
abbrev f304:ZR:=⟨1,35,[.cell 2 4 true,.tmp 3],f304C,false⟩
def f305l0:=Qf "Erahe(h(bJtonru9B@b<v;Eyace(h([hLbJKlLbLbyMjNbpaO94ga&bFP;=c4wah4xIw%_hax9~"
def f305r0:=Qf "EQedahdab+R%d4gaS$"
def f305C:=QH f305l0 f305r0 "Edda,Ega&bGie,h,bGl+j&l4kal9B+j&p4kam9B+j&q4kan9B+j&m4kao9B+j&n4kap9B+j&y4kaq9<k;<k;<k;<k;<k;B4ga&b$<k;=a;4h[9?a=b;>b~;"
abbrev f305:=Fn1 3 36 6 f305C
def f306C:=Qf "Edda,EgVbGigd]s|Di&l4haj9e(h(_gcl$Engd]s|Dn&n4mao9Beebhebboqq%^r5saceebhebbLbtvjwb*sx&_may9<m;e(h(bTbJ&c%_gcKFm;<h;=a4gVb#~;"
abbrev f306:=Fn1 3 28 6 f306C
def f307C:=Qf "Edd[&b9^gd])d4fg4(h#~"
abbrev f307:=Fn1 2 8 4 f307C
def f308C:=Qf "Edd[&b9^gd])eWfgah6igd]r!dNj*i&akal6m^gd])eYno*m&apaq6r^gd])eZst*r&auav6w^gd])e.xy*w&azaJ6K^gd])e4LM*K&aNaO6P^gd])eAQR*P&aS4(T#~"
abbrev f308:=Fn1 2 37 4 f308C
def f309l0:=Qf "Esafeddhd,Juonsv9B@b<w;Eza]ddhdd[fLeKLkMe)eWzNpaO94(&bFP;=c4xaf4yIx%_fay9~"
def f309r0:=Qf "E(&a$"
def f309C:=QH f309l0 f309r0 "Edd[&bGgedahdabomh%d94(&bFi;e,h,bGm+k&l4lam9B+k&p4lan9B+k&q4lao9B+k&m4lap9B+k&n4laq9B+k&y4lar9<l;<l;<l;<l;<l;B4(&b$<l;=a;4f[9?a=b;>b~~"
abbrev f309:=Fn1 2 33 4 f309C
def f310l0:=Qf "Ejaf^Jkonjl9B@a<m;Ep^afLepqkre4gWamg]sGugg]s|Du&l4tav9egdhg,LexHkyegd]s|wzJaK6Legdhg,LeN%bkOegd]s|wPQ*L&aR:4(&aFS;EUgg]s|DU&n4TaV9egdhg,LeXHkYegd]s|wZ.:4(&aF/;E1gg]s|D1&pa263gg]s|D4&q*3&a540a6G8gg]r!eT847a9O7aO7_hWamh]:4ia;`i+<%^=5>egdhg,Le@HkAegd]s|wBC*>D&[E5|^agh])eW|b|c*|a|d&b:4(&aF|e~C0;<T;<t;=c;=_naf4oIn%_fao9~"
def f310r0:=Qf "E(&b$"
def f310C:=QH f310l0 f310r0 "Edd[&b9[9?a=a;>b~"
abbrev f310:=Fn1 2 72 4 f310C
def f311l0:=Qf "Etah^Juontv9B@a<w;Ez^ahLezJkKes|DL&fGO^ahLeOPkQer!e/R4NaSONaON_icT4jaU9cfaiK;eVW4fcX9;CM;=_xah4yIx%_hay9~"
def f311l1:=Qf "EYal^JZonY.9B@c</;E2^alLe23k4es|D5&fa667af^alLe9:k;e)eW8<*7&a=9ck^alLe@AkBeQeCK;e?D4kcE9C>;=d40al41I0%_la19~"
def f311r0:=Qf "E|[kgd])e0|b|c4|^|dO|^O|a_mc|e4na|f`n+|gH4(|h#~"
def f311r1:=QH f311l1 f311r0 "EkVe9[9?a=c;>b~"
def f311C:=QH f311l0 f311r1 "Edd[&bGpgd]r!e/p4ocq8aEsOo_fcr4gas94h[9?a=a;>b~;" [.o 17 (.extm 14)]
abbrev f311:=Fn1 2 75 4 f311C
def f312C:=Qf "daVe[Gfg[er9f4(g9]omhH9]4cVe4dajFi~g[er!k=k4ccl4d[#~;"
abbrev f312:ZR:=⟨1,12,[.own 2,.tmp 3],f312C,false⟩
def f313C:=Qf "Ed,Vb[Gk^gd])d0kl4gam`gomnH`g4eV_fapFo~Er^r!e1r4qasOqaOq_hct4icu`hgd]r!d1w.(bx)e2vy4jWemjacz9ejahjabJKopLH94eV_fbeFM;ejbhjb_ecO4f[#~~~"
abbrev f313:=Fn2 2 32 4 5 f313C
def f314l0:=Qf "Eiag^Jjonik9B@a<l;Eo]^agLepqkrer!d1sagQbu/(btbbv)e2ow4hWemhacx9ehahhabJzopJH9ceghacQcMK3cLN4ecO9cfagQbQKibPR4fcS9;CK~=_mag4nIm%_gan9~"
def f314r0:=Qf "ET]af4ccT4dcU$"
def f314C:=QH f314l0 f314r0 "EcVcVb9Vc9Vb9[9?a=a;>b~~"
abbrev f314:=Fn2 1 38 2 3 f314C
def f315l0:=Qf "EXai^afLcYZf.bl/bJ0onX19B@c<2;E5e,h,[^fLc78f9bl:[iLb;<l=b)e36>e,8a:=d43ai44I3%_ia49~" [.n (.stfm 3 1 60)]
def f315r0:=Qf "EtafIt%_fau9"
def f315l1:=QH f315l0 f315r0 "Ejaf^Jkonjlam5nedahdabJpopqH*nr&b9B@a<s;Ev^afLcvwfxalybedahda_gcz4hcK:ahagagJNobO%bLeMPkQe)d4LR`hag)d2TUeda8a94i[9?a=c~CS~=b>b~" [.n (.stfm 3 0 38)]
def f315r1:=Qf "EAgdacm(cA$"
def f315C:=QH f315l1 f315r1 "Ed,We9[9?a=a;>b~"
abbrev f315:ZR:=⟨2,63,[.cell 4 2 true],f315C,false⟩
def f316l0:=Qf "Eiah^Jjonik9B@a<l;EIgpaIp5q^ahLbrslt[boquv*qw&b94ga&a9^ahLbyzlJ[b+KL9@bCM;cfabQbOKibNP4fcQ9~Cx;cf^ahLbSTlUbQbVKibRW4fcX9;=_mah4nIm%_han9~"
def f316r0:=Qf "EYagpaY9cfabQb/Kib.04fc19CZ;af4ec2#~"
def f316C:=QH f316l0 f316r0 "EeVb9Vb`&b9[9?a=a;>b~~"
abbrev f316:=Fn1 2 48 4 f316C
def f317l0:=Qf "Erah^Jsonrt9B@a<u;Ey^ahLeyzkJer!e5K4xaLOxaOx_iWami]M4jcN9gf]gi]s|wOPpaQ9@bCR;ETagajr!e6U)d@TV4SaWOSaOS_kcX4laY`l+Z%^.5/^ak)e701*/2&b94(&aF3~~=_vah4wIv%_haw9~"
def f317r0:=Qf "E(&b$"
def f317C:=QH f317l0 f317r0 "Edd[&bGngd]r!e5n4maoOmaOm_fWamf]p4gcq94h[9?a=a;>b~;"
abbrev f317:=Fn1 2 49 4 f317C
def f318C:=Qf "daWaVfGgg[es|Dg&ipah9g[emc]j4dVfFi;Elebdhb,Lem%bkner!d7o4kapOkaOk_ecq4far9ebdhb,LetHkue]mc]v4dcw#~~"
abbrev f318:ZR:=⟨1,23,[.cell 2 4 true,.tmp 3],f318C,false⟩
def f319l0:=Qf "Ef]^Jgonfh9B@a<i;Elcd^]LfmnfIkpe^]Lfrsftelubpbv/c]qebwQfxKCfly4dcz:=_j]4kIj%_(k9~"
def f319r0:=Qf "EJad4ccJ$"
def f319C:=QH f319l0 f319r0 "EcVf9Vf9[9?a=a;>b~;"
abbrev f319:=Fn1 1 27 2 f319C
def f320l0:=Qf "Elag^Jmonln9B@a<o;Er^agLerskter!eMuGx^agLexykzer!d7J4waKOwaOw_hcL4iaM9cfah^)e8OPQbQKybNR4fcS9;Cv;=_pag4qIp%_gaq9~"
def f320r0:=Qf "EUafa[a)e8VW)e9UX4TaYOTaOT_jcZ4ka.`k+/H4(0#~"
def f320C:=QH f320l0 f320r0 "E(&b9Vb9[9?a=a;>b~;"
abbrev f320:=Fn1 2 46 4 f320C
def f321l0:=Qf "Ehag^Jionhj9B@a<k;Ena[^gLfopfqakre)eWnspat9cf^agLfwxkyfQfzKCfvJ4fcK9Cu;=_lag4mIl%_gam9~"
def f321r0:=Qf "ELaf4ecL$"
def f321C:=QH f321l0 f321r0 "EeVf9Vf9[9?a=a;>b~;"
abbrev f321:=Fn1 2 29 4 f321C
def f322l0:=Qf "Ezal^JJonzK9B@a<L;EOckahegahgabJRalISTLbPUlVbpbWQbXKibOY4kcZ9=_Mal4NIM%_laN9~"
def f322r0:=Qf "E.ak4ec.4f[$"
def f322C:=QH f322l0 f322r0 "EeVb[Gn^ab)e:no4mapOmaOmbOmcOmd4gWdmgadq4hcr4ias4jat`jomuH`j4eV_fawFv;aioqxH94eV_fbeFy;4kVb94l[9?a=a;>b~~~"
abbrev f322:=Fn2 2 44 4 5 f322C
def f323l0:=Qf "EJajaiJKonJL9B@a<M;EPaiajLbPQlRbr!d=S4kaT`komUH98aEXakZ(dWd4fV_g[4haXFV~=_Naj4OIN%_jaO9~" [.o 39 (.mkst [.gs 0 0 0 0,.gs 0 0 0 0,.gs 0 0 0 0] [])]
def f323r0:=Qf "EYair!e;Y4lcZ`lJ.op/%m98aZ(d1d4fV_g[4hbdF0;E3^al)e<3442a5O2aO2_mWdmmad64na7`npa898bZ(d:d4fV_g[4hbdF9;E<gmadab)jl<=4;a>O;aO;bO;c4oc?4pa@4naA`npaB98cZ(dDd4fV_g[4hbdFC;EEgmadaIpm(dE4fc|a4ga|_h[#~~~;" [.o 46 (.mkst [.gs 0 0 0 0,.gs 0 0 0 0,.gs 0 0 0 0] []),.o 55 (.mkst [.gs 0 0 0 0,.gs 0 0 0 0,.gs 0 0 0 0] []),.o 65 (.mkst [.gs 0 0 0 0,.gs 0 0 0 0,.gs 0 0 0 0] [])]
def f323C:=QH f323l0 f323r0 "EeWdVb[[Gq^Jqopr%m98aZ(dtd4fV_g[4hbdFs;8bEv^KybuvabQbxKybwy4icz94j[9?a=a;>b~~" [.o 19 (.mkst [.gs 0 0 0 0,.gs 0 0 0 0,.gs 0 0 0 0] []),.o 20 (.mksl 1 [])]
abbrev f323:ZR:=⟨2,69,[.cell 4 3 true,.tmp 5,.tmp 6,.tmp 7],f323C,true⟩
def f324l0:=Qf "Emaf^]Lbn+pbJqonmr9B@c<s;Evad^]Lbwxly[fLfzJfKakLe)dVvM4dcN9=d4taf4uIt%_fau9~"
def f324r0:=Qf "Ek]Ik%_(l9"
def f324l1:=QH f324l0 f324r0 "Eg]^Jhongi9B@a<j;4f[9?a=c;=b>b~"
def f324r1:=Qf "EOad4ccO$"
def f324C:=QH f324l1 f324r1 "EcVe9Ve9[9?a=a;>b~;"
abbrev f324:=Fn1 1 32 2 f324C
def f325l0:=Qf "EOajabJPonOQ9B@c<R;EUaiaj^ahLbWXlY[[jLe./k0e)e=Z1LbUVn3b2:=d4Saj4TIS%_jaT9~"
def f325r0:=Qf "E4aiabJ5ahI67L_8n9b%b9egbhgbbYibQb<8aE?egbmgbb>9;" [.o 59 (.appM 24 1 (.t 56) (.t 58))]
def f325r1:=Qf "ExahIx%_hay9"
def f325l1:=HQ f325l0 f325r0 f325r1 "Etah^Juontv9B@a<w;EzabJz^JKIJL8a4iaN94j[9?a=c;>b~=b>c~" [.o 30 (.mkg 8 1 [.int .i64 0] (.t 29))]
def f325l2:=Qf "E|raImJ|son|r|t9B@i<|u;E|yegbhgb[maoLb|J|Kl|LbLb|z|Mj|N[negbhgb[maoLb|S|Tl|UbLb|R|Vj|W[lLb|X|Yl|Z[nalLb|/|0l|1bod|.|2t!jk|O|P|34|xa|4O|xaO|x_pc|54qa|6:aqpa|798aZ(d|9d4fa&bF|8;E|:egbhgb[maoLb|<|=l|>[pLb|;|?8b:~=j4|vao4|wI|v%_I|w9~" [.o 121 (.mkst [.gs 0 0 0 0,.gs 0 0 0 0,.gs 0 0 0 0] []),.n (.stm 129 128)]
def f325r2:=Qf "E|Bggadakalt!jj|B|C|D4mc|E9"
def f325l3:=QH f325l2 f325r2 "E|hamJ|hop|i%b9B@g<|j;egbhgb[mLb|mHl|nbLb|l|oj|p_nc|q:4obb9?a=i;>b~=h;"
def f325r3:=Qf "E!c]gchgcbQb&d8aE!ceegcmgcb!cd`mJ!cf+!cg%b9egchgc[lamLb!clHl!cmbLb!cj!ckn!cob!cn:akamLb!cqHl!crbLb!cp!csn!ctb&a9;C!ch~" [.o 137 (.appM 8 1 (.t 135) (.t 136))]
def f325r4:=Qf "E|[lI|b%_la|c9"
def f325l4:=HQ f325l3 f325r3 f325r4 "ECalabJDonCE9B@e<|a;E|dggadakalt!jj|d|e|f4mc|g9?a=g>b~=f>c~"
def f325r5:=Qf "E!cuggadm(d!cu4fa&a$"
def f325r6:=QH f325l4 f325r5 "E@^J@8a4kaB94l[9?a=e;>b~" [.o 63 (.mkg 1 1 [.bool false] (.t 62))]
def f325C:=QH f325l1 f325r6 "EeWda&bGrab.mabr4gWdmgads94h[9?a=a;>b~;"
abbrev f325:ZR:=⟨2,155,[.cell 4 3 true,.tmp 5],f325C,true⟩
def f326l0:=Qf "Egaf^Jhongi9B@a<j;Em^afLfmnfIkpegd]s|wqr:^afLftufvelw_(xFs;=_kaf4lIk%_fal9~"
def f326r0:=Qf "Ee[$"
def f326C:=QH f326l0 f326r0 "Ed,[9[9?a=a;>b~"
abbrev f326:=Fn1 2 24 4 f326C
def f329C:=Qf "Ec[9^^pbe8a4cag#~" [.o 6 (.mx (.t 3) (.t 5))]
abbrev f329:=Fn1 1 7 2 f329C
def f330C:=Qf "Edd[&bGigd]r!d7i4hajOhaOh_fck4gal`g+m%^n5o^af)e7pq*or&_(s#~;"
abbrev f330:=Fn1 2 19 4 f330C
def f363l0:=Qf "Ekonji9B@a<kaj4(l`d]ad]LfopfqejrbpbsLfmnfuenvbt9;=bIj%_jaw9~;"
def f363r0:=Qf "Exad4cYxf$"
def f363C:=QH f363l0 f363r0 "EcVfGf^r!daf4dag`dJh[9?a=a;>b~;"
abbrev f363:=Fn1 1 24 2 f363C
def f373l0:=Qf "Eronqp9B@c<rLfoqksf4hWcmhaft`dehagh]Qew8a4day9;=dEzIq%_qaz9~;" [.o 24 (.appM 56 4 (.t 20) (.t 23))]
def f373r0:=Qf "EJIk%_kaJ9"
def f373l1:=QH f373l0 f373r0 "Elonkj9B@a<lLbiklm_fcn`fJo[9?a=c~=b>b~;"
def f373r1:=Qf "EKad)cTK&s`d)hLM&|f4ccN#~"
def f373C:=QH f373l1 f373r1 "EcVe`&hGi^Ji[9?a=a;>b~;"
abbrev f373:=Fn1 1 31 2 f373C
def f375C:=Qf "Ecdad[&b9gc]gd]sNfg+hH4(i#~"
abbrev f375:=Fn1 2 9 4 f375C
def f378l0:=Qf "Epajakonpq9B@a<r;ajakIst8aEwojv&t8_laxGyac^alLezJkKege]xyLMonNH:alIP%_jaQ`l4kaR9<O~=b;" [.o 21 (.conv .u64 (.t 20)),.o 23 (.conv .i64 (.t 22))]
def f378r0:=Qf "ESajajaionTUaV5Wac^ajLeYZk.ege]xX/0+1H*W2&_gaS4ha3:A;"
def f378C:=QH f378l0 f378r0 "Ee,Eg[a&bGm^Jm4ian`i4j[4kao9?a=a>b~~"
abbrev f378:=Fn2 3 49 6 7 f378C
def f418C:=Qf "daWa[Gfg[erYf4(g9]omhH98aEk]Zc]ja4dakFi~Emg[es|em&p4lan9ebdhb,Lep%bkqer1rmc]s4d[$Eug[es|eu&qpav4taw98bZc]xa4,k$Ezebdhb,LeJ%bkKes|eL&mpaM4yaN98cZc]Oa4,eFy;<t;<l;=aEPebdhb,LeQ%bfRdlSbLeTHkUer1Vmc]W4d[#~~" [.o 9 (.mkst zG []),.o 23 (.mkst zG []),.o 31 (.mkst zG [])]
abbrev f418:ZR:=⟨1,40,[.cell 2 4 true,.tmp 3],f418C,false⟩
def f497l0:=Qf "EPahagJQonPR9B@c<S;EVa[gahLeWXiY(gahob/%bLe.0i1exVZ2pa3:^afagahLe78i9eLe56n;e:`fI<%_fa=9;C4;=d4Tah4UIT%_haU9~"
def f497r0:=Qf "E>^afTe>?&c8a9^afTeA&cB4eYCe#~" [.n (.clr 4 (.t 61))]
def f497r1:=Qf "EqafIq%_far9"
def f497l1:=HQ f497l0 f497r0 f497r1 "Emaf^Jnonmo9B@a<p;Esa[^fLetuive^afoby%bLexziJexswK:^afTeMN&c4gaO94hbb9?a=c;>b~CL;=b>c~"
def f497r2:=Qf "ED^4eYDe$"
def f497C:=QH f497l1 f497r2 "EeVeGi^Jionj%c9^4eYleFk;4fbb9?a=a;>b~;"
abbrev f497:=Fn1 2 66 4 f497C
def f511l0:=Qf "Ejonih9B@a<jLegikke4fWamf]l9gf]8aEo)cRmn9;=bIi%_iap9~;" [.o 13 (.mkfn 512 [.t 3])]
def f511r0:=Qf "Eqj,r!cSq4ccr$"
def f511C:=QH f511l0 f511r0 "EcVe9XjGg^Jg[9?a=a;>b~;"
abbrev f511:=Fn1 1 18 2 f511C
def f512C:=Qf "Ecda9jbbgc]JdQe&/8aEiLehf8bnbbh:;" [.o 7 (.appM 56 4 (.t 3) (.t 6)),.n (.stq 8 4 (.t 4) 1)]
abbrev f512:ZR:=⟨2,9,[],f512C,true⟩
def f517C:=Qf "Edd[&b[Gj^gd]Qek)h4jl4iamOiaOi_gcn4hao`hompH`h4(&_farFq;^r!h=sag)h?tugd])h@vw4(x4f[:A~~"
abbrev f517:=Fn2 2 24 4 5 f517C
def f518C:=Qf "EeVe[Gk^Jkopl%?94eVe4fbdFm;^abRbnor!c1p4gcq`gr!h5r4has`homtH`h4eVe4favFu~agr!hZw4icx`ir!h7y4jaz`jomJH`j4eVe4faLFK~ai4ecM4f[#~~~;"
abbrev f518:=Fn2 2 30 4 5 f518C
def f519l0:=Qf "Ejonih9B@a<jLegikke4eWame]l9ge]r!h6m4fan`fomoH`f4caqFp~;=bIi%_iar9~;"
def f519r0:=Qf "Ec[$"
def f519C:=QH f519l0 f519r0 "Ec[Gg^Jg[9?a=a;>b~"
abbrev f519:=Fn1 1 18 2 f519C
def f520C:=Qf "da[Geg[erYe4daf`domgH`d4caiFh~Ekg[er!cOkJlopmH4jan94cbn$Epg[er!cWppaq4Ir94cbkFo;<j;=a4c[#~~"
abbrev f520:=Fn1 1 18 2 f520C
def f521l0:=Qf "EVonUT9B@d<VLfSUkWf4kWcmkafX9]ekagk])h9Y.4ec/9;=eIU%_Ua09~;"
def f521r0:=Qf "E1In%_na19"
def f521l1:=QH f521l0 f521r0 "Eoonnm9B@a<oLelnkpe4gWamg]qGsgg]r!h8s4rat`dIu%_davGxgg]Qb&i)cJxy4waz9egdhg,LeK%bkLemg]M9@b<w;<r;=cEOgg]r!c7O4NaPONaON_hcQ4iaR`hJS[9?a=d~~=b>b~;"
def f521r1:=Qf "E2^J2op3%!cEa465adop6%e*5&a7a869]J:op;%i*9&a<94cbdF=;4c[#~"
def f521C:=QH f521l1 f521r1 "Ec[9[9VeGl^Jl[9?a=a;>b~~"
abbrev f521:=Fn1 1 59 2 f521C
def f522C:=Qf "d^&b9g[eRb&j&g)cJde4caf#~"
abbrev f522:=Fn1 1 6 2 f522C
def f523C:=Qf "Ed,VeGi^gd]t!h:ij&s4hakOhaOh_fal4gam`g9^4ecoFn;^r!h;pafgd]Qest!h<qrt4eYue:A~~"
abbrev f523:=Fn1 2 21 4 f523C
def f524l0:=Qf "Epajakonpq9B@a<r;ajakIst8aEwojv&t8_laxGyac^alLezJkKege]xyLMonNH:alIP%_jaQ`l4kaR9<O~=b;" [.o 21 (.conv .u64 (.t 20)),.o 23 (.conv .i64 (.t 22))]
def f524r0:=Qf "ESajajaionTUaV5Wac^ajLeYZk.ege]xX/0+1H*W2&_gaS4ha3:A;"
def f524C:=QH f524l0 f524r0 "Ee,Eg[a&bGm^Jm4ian`i4j[4kao9?a=a>b~~"
abbrev f524:=Fn2 3 49 6 7 f524C
def f527C:=Qf "EcVeGe^r!c>e4daf`d)cTg&s`d)hLi&|g4ccj#~~"
abbrev f527:=Fn1 1 10 2 f527C
def f528C:=Qf "Ecdad[&b9gc]gd]sNfg+hH4(i#~"
abbrev f528:=Fn1 2 9 4 f528C
def f529l0:=Qf "Emonlk9B@c<mLejlkne4hWamh]o9^gh])h@pqparas5t^gh])hAuv*tw&b9^gh])h9yz4acJ94fa&a9;Cx~=dIl%_laK9~;"
def f529l1:=Ko f529l0 "Eiaf9B@a<i;4fa&b`bJj[9?a=c~=b;"
def f529r0:=Qf "EL^4ecL$"
def f529C:=QH f529l1 f529r0 "EeVe`&a9?a=a;>b~"
abbrev f529:=Fn1 2 29 4 f529C
def f530C:=Qf "Edd[&bGi^gd]t!h:ij&s4hakOhaOh_fal4gam`g4(n#~;"
abbrev f530:=Fn1 2 14 4 f530C
def f531C:=Qf "Edd[&b9^gd])h@fgah6igd]r!czj*i&akal6m^gd])hBno*m&apaq6r^gd])hDst*r&auav6w^gd])idxy*w&azaJ6K^gd])iqLM*K&aNaO6P^gd])iPQR*P&aS4(T#~"
abbrev f531:=Fn1 2 37 4 f531C
def f532C:=Qf "8aEdd[&b9gd]8bEh)cJfgah5ieddhd,8cEm)dnklpam*in&_(o#~" [.o 2 (.gbox (.t 0)),.o 6 (.mksl 1 [.c (.str [112,97,105,114]),.c (.str [101,110,99]),.c (.str [97,101,110,99]),.c (.str [112,107]),.c (.str [115,105,103,110]),.c (.str [104,97,115,104])]),.g 11 (.mkfn 533 [.t 2]) 8 true]
abbrev f532:=Fn1 2 15 4 f532C
def f533C:=Qf "Ecd^&b9jbbgc])h@efpag4dah#~"
abbrev f533:=Fn1 2 8 3 f533C
def f534C:=Qf "8a8bE(&b9jcb8cEh)ibfg4(h#~" [.o 2 (.gbox (.t 0)),.o 3 (.gbox (.t 1)),.o 6 (.mkfn 535 [.t 3,.t 2])]
abbrev f534:=Fn1 2 8 4 f534C
def f535C:=Qf "Edd^&bGigd]Qb&l)cJij4hak9eddhd,LemHkneibe)iaopaq6reddhd,Let%bkueibe)iavw*r&ax4(y:A;EJgd]Qb&n)cJJK4zaL9eddhd,LeNHkOeibe)iaPQ4(R:A;ETgd]Rb&p&q)cJTU4SaVGXgd]r!gqX4WaYOWaOW_fWamf]Z4ga.`g+/%^051eddhd,Le3Hk4eibe)ia56*17&[859jcbgf])h@:;*9<&_(=:A~CS;<z;<h;=a4(&b#~;"
abbrev f535:=Fn1 3 59 4 f535C
def f536C:=Qf "Ecdad[&b9gc]gd]sNfg+hH4(i#~"
abbrev f536:=Fn1 2 9 4 f536C
def f537C:=Qf "E(&b9^ab)icfgoqhH4(i#~"
abbrev f537:=Fn1 2 9 4 f537C
def f538l0:=Qf "Ejonih9B@a<jai4fak`[^fLemnkoewlp`f4(rFq~=bIi%_ias9~;"
def f538r0:=Qf "E(&d$"
def f538C:=QH f538l0 f538r0 "Ee[Gg^Jg[9?a=a;>b~"
abbrev f538:=Fn1 2 19 4 f538C
def f539l0:=Qf "Ezonyx9B@a<zLewykJe4iWami]K9gi]Qb&f)cJLMGPgi]r!ieP4OaQOOaOO_jcR4kaS9cfajK;eTU4fcV9;CN~=bIy%_yaW9~;"
def f539l1:=Qf "E0on/.9B@c<0LeZ/k1e4oWamo]29go]Qb&f)cJ34a566algo])h@78*6&a99cmgo]Qe<K;e;=4mc>9C:~=dI/%_/a?9~;"
def f539r0:=Qf "EAamgd])ifAB4@aCO@aO@_pcD4qaE`q+|aH4(|b#~"
def f539r1:=QH f539l1 f539r0 "EXafr!h=X4lcY94mVe9^JZ[9?a=c;>b~;"
def f539C:=QH f539l0 f539r1 "Edd[&bGsgd]r!ies4rct8aEvOr_fcu4gav9^Jw[9?a=a;>b~;" [.o 20 (.extm 17)]
abbrev f539:=Fn1 2 69 4 f539C
def f540C:=Qf "daVe[Gfg[eQef)c0&eg4(h9]omiH9]4cVe4dakFj~g[er!c3lr!c5m4ccn4d[#~;"
abbrev f540:ZR:=⟨1,14,[.own 2,.tmp 3],f540C,false⟩
def f541l0:=Qf "EYonXW9B@a<YaX4laZ`jal)in./9ckalQb2Kib134kc49C0~=bIX%_Xa59~;"
def f541r0:=Qf "E6ak4ec64f[$"
def f541C:=QH f541l0 f541r0 "Ed,Vb[Gm^gd]Qen)c0mo4gap`gomqH`g4eV_fasFr~^gd])igtu4havGxahahgd])iiyz)imxJ4waKOwaOw_iaL4jaM`iahPOfPajQbJR)ipNSoqTH94eV_fbeFU;4kVb9^JV[9?a=a;>b~~~;"
abbrev f541:=Fn2 2 52 4 5 f541C
def f542l0:=Qf "EJonzy9B@a<JLexziKe4hWamh]L`fafPNfOajPbgh]8a8bEUPMfUanVbT:;=bIz%_zaW9~;" [.o 35 (.callq 182 [.t 34]),.o 36 (.appM 56 4 (.t 33) (.t 35))]
def f542l1:=Qf "E;on:99B@c<;a:Le8:k=e4jWa4ia<mj]>G@afafgj])iiAB)im@C4?aDO?aO?_kaE4la|a`kafP|cf|daj|ebJ|f)ip|b|g4ma|h`moq|iH`lai)il|k|l`fP|nf|ocj|p[mafP|sf|tdj|u[makal8aE|JO|zb8b8cE|LO|Kb8d:afafP|Nf|Oej|P[iQb|R8eE|UP|Mf|Uen|Vb|T9~C|j~~=dI:%_:a|W9~;" [.o 92 (.mpe false (.t 83) (.t 84) (.sl true 1 [])),.n (.ensf (.t 83) (.t 93) 90 1),.o 94 (.mpe false (.t 88) (.t 89) (.sl true 1 [])),.n (.ensf (.t 88) (.t 95) 91 1),.o 103 (.appM 8 1 (.t 100) (.t 102))]
def f542r0:=Qf "E|Xaf4(|X$"
def f542r1:=QH f542l1 f542r0 "EXafPXfYajZb)cT.&s`fafP1f2aj3b)cV4&|hP0f6an7b59^J8[9?a=c;>b~;"
def f542C:=QH f542l0 f542r1 "Ed,3Gn^Jn8a8bEr0nbbocbp,q8c4fasGt^r!c>tgd]Qev8dEyJx[:?a=a;>b~;" [.o 15 (.mkm),.o 16 (.mkm),.o 18 (.gbox (.t 17)),.o 23 (.appM 56 4 (.t 20) (.t 22))]
abbrev f542:ZR:=⟨2,108,[.tmp 4],f542C,true⟩
def f543C:=Qf "Ecdad[&b9gc]gd]sNfg+hH4(i#~"
abbrev f543:=Fn1 2 9 4 f543C
def f544l0:=Qf "Euonts9B@a<uLertkve4hWamh]w`f^gh])ijyz)ilxJ9;=bIt%_taL9~;"
def f544r0:=Qf "EMaf4(M$"
def f544C:=QH f544l0 f544r0 "Ed,VbGi^PifjajkbJlodm%CIn%b8a4fapGqgd]r!c3qJr[9?a=a;>b~;" [.o 15 (.mkg 8 1 [.int .u64 0] (.t 14))]
abbrev f544:ZR:=⟨2,30,[.tmp 4],f544C,true⟩
def f545C:=Qf "Ed,[Gi^Pifjajkbgd]t!iklm&s4hanOhaOh_fao4gap:af4(q#~;"
abbrev f545:=Fn1 2 17 4 f545C
def f546l0:=Qf "Epajakonpq9B@a<r;ajakIst8aEwojv&t8_laxGyac^alLezJiKege]xyLMonNH:alIP%_jaQ`l4kaR9<O~=b;" [.o 21 (.conv .u64 (.t 20)),.o 23 (.conv .i64 (.t 22))]
def f546r0:=Qf "ESajajaionTUaV5Wac^ajLeYZi.ege]xX/0+1H*W2&_gaS4ha3:A;"
def f546C:=QH f546l0 f546r0 "Ee,Eg[a&bGm^Jm4ian`i4j[4kao9?a=a>b~~"
abbrev f546:=Fn2 3 49 6 7 f546C
def f547C:=Qf "Ee^abodf%CLbegjh[boej%Coi&tkohilLbegnnbm:"
abbrev f547:=Fn0 2 14 f547C
def f548l0:=Qf "Exonwv9B@a<xaw4hayGJ^PJfKcjL[h8a4zaOEPOzaOz_icP4jaQ`jaR5Sa[h)inTU*SV&b`[i)ioXY`g^P/f0dj1[h8bE5)io.49;CW~;=bIw%_wa69~;" [.o 31 (.lkm false true (.t 29) (.t 30) (.sl true 1 [])),.o 49 (.lkm false false (.t 47) (.t 48) (.sl true 1 []))]
def f548r0:=Qf "E7a[g4(74fa8$"
def f548C:=QH f548l0 f548r0 "EeVbVbGk^Pkflbjmbodn%CIo%b8a4gaqGr^PrfsajtbJu[9?a=a;>b~;" [.o 16 (.mkg 8 1 [.int .u64 0] (.t 15))]
abbrev f548:ZR:=⟨2,54,[.tmp 4,.tmp 5],f548C,true⟩
def f549C:=Qf "E(&b9^abodg%CLbfhji[boek%Cojjlofm&t+n&t4(o#~"
abbrev f549:=Fn1 2 15 4 f549C
def f550l0:=Qf "Eionhg9B@a<iah4(j9^]Lbkljm[[eLboplqbohnrLbklntbs:;=bIh%_hau9~;"
def f550C:=Ko f550l0 "Ef^Jf[9?a=a;"
abbrev f550:=Fn0 2 21 f550C
def f551l0:=Qf "Eionhg9B@a<iah4faj9^af)inkl`f4(nFm~=bIh%_hao9~;"
def f551r0:=Qf "E(&d$"
def f551C:=QH f551l0 f551r0 "Ee[Ggab[9?a=a;>b~"
abbrev f551:=Fn1 2 15 4 f551C
def f552C:=Qf "8aEdd[&bGigd]r!iri4hajOhaOh_fXa4gXonfek8b9jcb8cEo)ibmn4(o#~;" [.o 2 (.gbox (.t 0)),.n (.stm 6 11),.o 13 (.mkfn 554 [.t 5,.t 6,.t 2])]
abbrev f552:=Fn1 2 15 4 f552C
def f553C:=Qf "daWaVfGgg[eQb&i)cJghpai9g[emc]k4dVfFj;Emebdhb,Len%bkoer!c7p4laqOlaOl_ecr4fas9ebdhb,LeuHkve]mc]w4dcx#~~"
abbrev f553:ZR:=⟨1,24,[.cell 2 4 true,.tmp 3],f553C,false⟩
def f554C:=Qf "Eed^&bGlge]r!irl4kamOkaOk_gWamg]n4hco9ibegg])iapqpar94fa&bFs;Eujc[h8aEx)cEuw4taxOtaOt_icy4jaz:aj+J%^K5Ljd[i)itMN*LO&_faP#~~;" [.o 22 (.callq 363 [.t 21])]
abbrev f554:=Fn1 4 33 5 f554C
def f555l0:=Qf "Evonut9B@a<vLesukwe4hWamh]x9gh]r!h8yGKgh]r!c7K4JaLOJaOJ_icM4jaN9cf^ai)iuPQQbRKybOS4fcT9;Cz~=bIu%_uaU9~;"
def f555r0:=Qf "EWafab)iyWX4VaYOVaOV_kcZ4la.`l+/H4(0#~"
def f555C:=QH f555l0 f555r0 "E(&bGm^ab)iumn4bco`bJp+qH94(&aFr~4fVb9^Js[9?a=a;>b~~"
abbrev f555:=Fn1 2 46 4 f555C
def f556C:=Qf "8aEeVf`br!ivf8bEi)ixgh4eci#~" [.o 2 (.gbox (.t 0)),.o 7 (.mkfn 558 [.t 2])]
abbrev f556:=Fn1 2 9 4 f556C
def f558C:=Qf "Ecd^&b9jbbecagc])h@eg4dah#~"
abbrev f558:=Fn1 2 8 3 f558C
def f559l0:=Qf "Eqag^Jronqs9B@a<t;Ew^agLfwxiyf4hWcmhafz`bghafwJKpaL9^afghafLfNOnQfP`fIR%_faS9;CM~=_uag4vIu%_gav9~"
def f559r0:=Qf "ET^afTfTU&c8a9^afTfW&cX4eYYf#~" [.n (.clr 5 (.t 38))]
def f559C:=QH f559l0 f559r0 "EeVfGi^ab)deij4fak`f+l&d9^4eYnfFm;afIo%_gap9?a=a;>b~~"
abbrev f559:=Fn1 2 42 4 f559C
def f560l0:=Qf "EPonON9B@a<PLbMOjQ_maR9ckampbTQbUKibSV4kcW9;=bIO%_OaX9~;"
def f560r0:=Qf "EYak4ecY4f[$"
def f560C:=QH f560l0 f560r0 "EeVb[Go^ab)izop4naqOnaOnbOncOnd4gar4has4iat4jau`jomvH`j4eV_faxFw;aioqyH94eV_fbeFz;4kVb`hPJfKbjLbJM[9?a=a;>b~~~"
abbrev f560:=Fn2 2 42 4 5 f560C
def f561C:=Qf "Ee33[[Gn^ab)iJno4mapOmaOmbOmc4iaq4jar4kas`komtH`k4e34f34g[4havFu;4la&d`iPwfxdjybpaz`iaj)iOKL4laM9CJ;aiPNfOdjPb94e34f34g[4hbdFQ;aiajal4(R4faS4gaT4h[#~~~;"
abbrev f561:ZR:=⟨2,37,[.tmp 4,.tmp 5,.tmp 6,.tmp 7],f561C,true⟩
def f562l0:=Qf "Ewonvu9B@a<wLbtvlx_icy`ir!cBz4jaJ`jomKH`j4e34f34gaMFL~;=bIv%_vaN9~;"
def f562l1:=Qf "E8on769B@c<8a7Lb57l:_ma94nc;`lP<f=aj>[n)iK?@^JB8a8b8c4I|a:E|[oP|bf|cbj|d[mLb|e|fn|gb%b`lalP|if|jbj|k[oQb|m8dE|pP|hf|pbn|qb|o9~;=dI7%_7a|r9~;" [.o 65 (.mkp 8 1 [.int .i64 0] (.t 64)),.o 66 (.mkstP 65 [.sl true 1 [],.sl true 1 [],.bool false] [(0,1,.t 62),(1,1,.t 65)]),.o 67 (.gbox (.t 66)),.o 81 (.appM 8 1 (.t 78) (.t 80))]
def f562l2:=Qf "E|yon|x|w9B@e<|yalalP|Jf|Kcj|LbQb&d8aE|PP|zf|Pcn|Qb|O9=fI|x%_|xa|R9~;" [.o 98 (.appM 8 1 (.t 96) (.t 97))]
def f562l3:=Qf "E|Yon|X|W9B@g<|Ya|X4pa|Z`lap)iL|.|/9;=hI|X%_|Xa|19~;"
def f562r0:=Qf "E|2alalP|3f|4aj|5[b)iK|6|7^J|98a8b8c4(|24fa|=4g[:A;" [.o 123 (.mkp 8 1 [.int .i64 0] (.t 122)),.o 124 (.mkstP 123 [.sl true 1 [],.sl true 1 [],.bool false] [(0,1,.t 120),(1,1,.t 123)]),.o 125 (.gbox (.t 124))]
def f562r1:=QH f562l3 f562r0 "E|SalP|Sf|Taj|UbJ|V[9?a=g;>b;"
def f562r2:=QH f562l2 f562r1 "E|salP|sf|taj|ubJ|v[9?a=e;>b;"
def f562r3:=QH f562l1 f562r2 "EOabr!cBO4kaP`komQH`k4e34f34gaSFR~^r!fUTabQbVKybUWr!fVX.pabY8a4la.G/alP/f0aj1bJ2op3%m94e34f34gbdF4;^J5[9?a=c;>b~~" [.o 43 (.gbox (.t 42))]
def f562C:=QH f562l0 f562r3 "Ee33[Gq^Jqopr%m94e34f34gbdFs;^Jt[9?a=a;>b~;"
abbrev f562:ZR:=⟨2,126,[.tmp 4,.tmp 5,.tmp 6],f562C,true⟩
def f563l0:=Qf "Eqonpo9B@a<qLfnpkrf4hWcmhafsGua]hagh]t!f.uw&s4taxOtaOt_iay4jaz`faiehehhebLbJKnNbM9~=bIp%_paO9~;"
def f563r0:=Qf "EPaf4(P$"
def f563C:=QH f563l0 f563r0 "EeVbGk^Jk8a4famGnabJn[9?a=a;>b~;" [.o 12 (.mkg 8 1 [.int .i64 0] (.t 11))]
abbrev f563:ZR:=⟨2,33,[.tmp 4],f563C,true⟩
def f564l0:=Qf "Evonut9B@c<vauLbsujx_gaw4hay`hPzfJcjK[L6MahPNfOajP[bLbQRjSb+TH*M&aU9@dCV;afIW%_faX9]onY%^Z6.ahP/f0aj1[bLb23j4b8aE7^P7f8bj9[eLb:;j<bP=f>aj?[bLb@AjBbr!iMCon6D*.&aE:ag4(|b9C|a~~=dIu%_ua|c9~;" [.g 51 (.callq 565 [.t 50]) 43 false]
def f564l1:=Qf "E|Mon|L|K9B@e<|Ma|LLb|J|Lj|O_ia|N4ja|P`i]om|Q|Ra|S5|TajP|Uf|Vcj|Wbpa|X*|T|Y&[|Z5|.ajP|/f|0aj|1[bLb|2|3j|4bom|5H*|.|6&[|75|8^P|9f|:dj|;bpa|<*|8|=&b9^aj^P|Af|Bbj|C[eLb|D|Ej!ca[jP!ccf!cdaj!ce[bLb!cf!cgj!ch[aP!cjf!ckbj!cl[eLb!cm!cnj!cobP!cpf!cqaj!cr[bLb!c)ctj!cubod!ci!cvu!iN|?|@!cb!cw:C|>~=fI|L%_|La!cy9~;"
def f564r0:=Ko f564l1 "E|daf+|dH#C|e;af+|f%b9^P|hf|icj|j[[eLb|k|ln|nb|m9^P|of|pbj|q[eLb|r|sj|tbP|uf|vcn|wb&a#~C|g;^P|xf|ybj|zbJ|J[9?a=e~;"
def f564l2:=QH f564l0 f564r0 "Ek^Pkfldjmbpan9B@a<o;4(&d4f[9^PpfqbjrbJs[9?a=c;>b~=b;"
def f564C:=Ko f564l2 "?a=a"
abbrev f564:ZR:=⟨2,159,[],f564C,true⟩
def f565C:=Qf "Ec[9^^pbe8a4cag#~" [.o 6 (.mx (.t 3) (.t 5))]
abbrev f565:=Fn1 1 7 2 f565C
def f566l0:=Qf "EXonWV9B@c<XaW4kaY9ejbhjb[kLb./j0_la1`lom2%^354adr!iM5alr!iM7od&|i8op69*4:&b9^P<f=dn>b&aF~ejahja[kLb@AjB[dalocDEobC|aLb@An|cb|b9^^P|ef|fdj|g[|h6|iejahja[kLb|k|lj|mbr!iM|nop|o&T*|i&a|pP|df|rdn|sb|q9~~=dIW%_Wa|t9~;"
def f566r0:=Qf "E|uIP%_Pa|u9"
def f566l1:=QH f566l0 f566r0 "EQonPO9B@a<QLcNPiRc4jWgmjacS9ejahjabJU[9?a=c~=b>b~;"
def f566C:=Ko f566l1 "EmabPmfnajo[cPqfrajsb/gabpbbtabPvfwbjx[cPzfJbjKb/gabybbL8aEOJN[:?a=a;" [.o 30 (.mksg 2 [.t 20,.t 29])]
abbrev f566:ZR:=⟨4,88,[],f566C,true⟩
def f567l0:=Qf "Eoonnm9B@a<In4fap`bPqfrajs[fLbtujv_gaw`g+xH9@bCy;^PzfJcjK[fLbLMjNbonOH`f4(QFP;^PRfSbjT[aPVfWcjX[fLbYZj.bLbU/j0_ha1:agahP3f4aj5[fLb67j8boe29om:H`f4(<F~^a[hagahPAfBajC[fLbDEj|abod@|bu!iN=>?|c9^P|ef|fdj|gb94(&dF|h~~~~=bIn%_na|i9~;"
def f567r0:=Qf "E(&d$"
def f567C:=QH f567l0 f567r0 "Ee[Gi^PifjajkbJl[9?a=a;>b~"
abbrev f567:ZR:=⟨2,76,[.tmp 4],f567C,true⟩
def f568C:=Qf "Edd[&bGigd]r!c7i4hajOhaOh_fck4gal`g+m%^n5o^af)itpq*or&_(s#~;"
abbrev f568:=Fn1 2 19 4 f568C
def f601C:=Qf "Edd[&bGnq!iEpanao6pgd]Qeq^K;ersr!jetpau*p&av9q!iE4(xFw;Ez^gd])jfzJ4yaKOyaOy_fcL4gaMGO^gd])ezOP4NaQONaON_hcR4iaS`gaiomTUaV6Wafahs|0XYpaZ*W&a.a/60agom1H*0&a2`gai+45a657afahs|089*7:&_(;F3;E=^af)jg=>4<a?O<aO<_jc@4kaAGC^ah)jiCD4BaEOBaOB_lc|a4ma|b`kam+|c|da|e5|fajals|0|g|h*|f|i&_(|j#~~~~"
abbrev f601:=Fn1 2 77 4 f601C
def f602C:=Qf "4^&bGhRb&|j&|k4bch9Rb&|l&04cci`b)ja&Ujpakal6mab)ja&|mnpao*m&apaq6rab)ja&1s*r&atau6vac)ja&|nwpax*v&ayaz6Jac)ja&2K*J&aL94^&bFM;EOr!jb&|oQeOr!jb&U)jcPQ4NaRONaON_dcS4(TGVr!jb&|pQeVr!jb&U)jcWX4UaYOUaOU_fcZ4ga.9]+/%^051ag+2H*13&[455adJ6+7H*58&[95:afr!jb&1Qe<s|0;=*:>&[?5@Rb&|q&0)ja&2A*@B&[C5DRb&|r&|s)ja&|tE*D|a&_^|b#~~~;"
abbrev f602:=Fn1 0 69 0 f602C
def f603l0:=Qf "Enonml9B@a<nLbkmlo_hap9cfahr!jbrQesK;eqt4fcu9;=bIm%_mav9~;"
def f603r0:=Qf "Exaf^r!jby)h3xz4waJOwaOw_iaK4jaL`iaM5Naj+OH*NP&_(Q#~"
def f603C:=QH f603l0 f603r0 "E(&b9VeGkabJk[9?a=a;>b~;"
abbrev f603:=Fn1 2 34 4 f603C
def f604C:=Qf "EcWaGg^r!ctg4fahOfaOf_dWamd]i4(j9gd]mc]k#~;"
abbrev f604:ZR:=⟨1,11,[.cell 2 4 true],f604C,false⟩
def f605l0:=Qf "ENonML9B@a<NLeKMkOe4lWaml]P`igd])h@QRpaSaT5Uaigl])h@VWpaX*UY&[Z5.aigl])h9/0ag)h?12gd])h@34*.5&b:cjgl]Qe8K;e794jc:9C6~=bIM%_Ma;9~;"
def f605r0:=Qf "E<aj4ec<4f[$"
def f605C:=QH f605l0 f605r0 "Ed,Ve[Gn^gd]Qeo)h4np4maqOmaOm_gcr4has`homtH`h4eVe4favFu;^r!h=wag)h?xy4icz94jVe`gr!jdJJK[9?a=a;>b~~~"
abbrev f605:=Fn2 2 58 4 5 f605C
def f606l0:=Qf "Elonkj9B@a<lLeikkme4fWamf]nGpgf]r!gqp4IqOIOo_gWamg]r4has`h+tH`dgg])h9vw4dcx9Cu~;=bIk%_kay9~;"
def f606r0:=Qf "Ezad4ccz$"
def f606C:=QH f606l0 f606r0 "EcVe9VeGi^Ji[9?a=a;>b~;"
abbrev f606:=Fn1 1 26 2 f606C
def f607C:=Qf "Eca&b9^t|Rd%C%!cg4c]#~"
abbrev f607:=Fn1 1 5 2 f607C
def f608C:=Qf "Ed,Ve[Gj^gd]Qek)h4jl4iamOiaOi_gcn4hao`gah4ecp4faq#~;"
abbrev f608:=Fn2 2 17 4 5 f608C
def f609C:=Qf "EeVe[Gj^Jjopk%?al6mabJnopo%!cE*m&ap94eVe4fbdFq;^abRbrsr!c1tr!h5u4gav`gomwH`g4eVe4fayFx~abr!h=z4hXi8a9^abRbKLr!c1Mr!hZN8bEQ)dnOP94eVe4fbeFQ;jhbr!h7R4iaS`iomTH`i4eVe4faVFU~^8cEYjhb)h?XY4ecZ4f[:A~~~;" [.n (.stm 7 26),.o 32 (.mkfn 610 [.t 7]),.o 40 (.callq 527 [.t 39])]
abbrev f609:=Fn2 2 43 4 5 f609C
def f610C:=Qf "Ecd^&b9jbbgc])h@efpag4dah#~"
abbrev f610:=Fn1 2 8 3 f610C
def f611C:=Qf "EeVe[Gl^Jlopm%?an6IbJpopq%!cE*o&ar94eVe4fbdFs;^r!eKt4gau`gomvH`g4eVe4faxFw~abr!eKy4haz`homJH`h4eVe4faLFK~abr!dUM4icN98aEP^K;eOPabK;eQRr!dCS4jcT`jJUaiJWomVX94eVe4fbeFY;air!eLZ4ka.`kom/H`k4eVe4fa1F0~^r!dU2ai)eO344ec54f[#~~~~;" [.o 31 (.mksl 4 [])]
abbrev f611:=Fn2 2 51 4 5 f611C
def f612l0:=Qf "Ekaie,h,bJmonkn9B@a<o;Era[iLbrsjt[u6ve,h,[iLbxyjz[cLbJKlLb+MH*v&aN9@bCO;ahaiQbQ8a4haSGTahJTobU%_jaV9e,h,[hLbYHjZbLbX.j/[cLb01l2b8bE5e,h,[iLb67j8[cLb9:l;b8cE>op4=:ahahajahajLbBCjD[hLb|aHj|bbLb?Hn|,ELb@A8d:C>~~=_pai4qIp%_iaq9~" [.o 35 (.appM 8 1 (.t 32) (.t 34)),.o 49 (.callq 329 [.t 48]),.o 58 (.callq 329 [.t 57]),.n (.stp 71 1 (.t 69) 70)]
def f612r0:=Qf "E|fah4gY|fb$"
def f612C:=QH f612l0 f612r0 "EddaEgVb`&h9[9?a=a;>b~;"
abbrev f612:=Fn1 3 73 6 f612C
def f613l0:=Qf "Elaj^Jmonln9B@a<o;Era[jLbrsltbomu%^v5wacr!e@xa[jLbzJlKbr!e@Lod&3MopyN*wO&b:4gV_ha&bFP;^ajLbQRlS[ca[jLbVWlXbocUYobTZ4ka.:akr!e@/op0&T94gV_ha&bF1;ciakQb3Kib244ic59~;=_paj4qIp%_jaq9~"
def f613r0:=Qf "E6ai4gc64ha&a$"
def f613C:=QH f613l0 f613r0 "EgV[&b9Vb9[9?a=a;>b~;"
abbrev f613:=Fn2 3 52 6 7 f613C
def f614l0:=Qf "Exajahonxy9B@a<z;ELaiajabecahca[jLePQkRe)e=NSLbLMnUbT9=_Jaj4KIJ%_jaK9~"
def f614l1:=Qf "EVakahonVW9B@c<X;E.aiakLb./j0b+1H9@dC2;ecchcc[kL_5j6bon7%^86`iakLb:;j<becbhcbbecchcc[kLbABjCbLb?DjE[kLb|a|bl|cboe=|dom|eH*9&a|f:aiak4eY|h_fa|i4ga&aF|g;ecbhcbbecchcc[kLb|m|nj|obLb|k|pj|q_lc|r:E|taialaiakLb|v|wj|x[lakLb|z|Jl|Kbod|y|Lt!k;|t|u|M4|sa|NO|saO|s_ma|O4na|P:anpa|Q94eV_f[4ga&bF|R;am4ia|S9~~;=d4Yak4ZIY%_kaZ9~"
def f614r0:=Qf "E|Tai4eY|T_fa&d4ga&a$"
def f614r1:=QH f614l1 f614r0 "Ek[9?a=c;>b;"
def f614C:=QH f614l0 f614r1 "EcdaEeVb[a&bGoecahcabJp4haq`hecbhcbbJtIru8a4iaw94j[9?a=a;>b~~" [.o 22 (.mkg 8 1 [.int .i64 0] (.t 21))]
abbrev f614:ZR:=⟨2,104,[.tmp 4,.tmp 5,.tmp 6],f614C,false⟩
def f615C:=Qf "E(&bGjq!iEpajak6l^r!jempan*l&aIp6qabt|Rr%X%!cEpas*q&at9q!iE4(vFu;Ex^abr!gfy)jgxz4waJOwaOw_fcK4gaLGN^ab)jiNO4MaPOMaOM_hcQ4iaR`gai+STaU5Vafahs|0WX*VY&_(Z#~~;"
abbrev f615:=Fn1 2 43 4 f615C
def f616C:=Qf "Edd[&bGnq!iEpanao6pgd]Qeq^K;ersr!jetpau*p&av9q!iE4(xFw;Ez^gd])h3zJ4yaKOyaOy_faL4gaMGO^gd])eyOP4NaQONaON_haR4iaSGU^gd])jcUV4TaWOTaOT_jcX4kaYG.^gd])jo./4Za0OZaOZ_lc14ma2`fah8aE6a556agai+78*69&[:5;ajals|0<=*;>&[?5@akam+AB*@C&[D5Eafpa|^|b6|cajJ|d+|eH5EN|c&a|f*E|g&_(|h#~~~;" [.o 50 (.eqb false (.t 48) (.t 49))]
abbrev f616:=Fn1 2 75 4 f616C
def f617l0:=Qf "ENalakJOonNP9B@a<Q;ETaiakalLeUVkWe)eWTXpaYaZ5.aiakalLe01k2e)dV/3ag)eO45gd])eW67*.8&b:cjakalLe;<k=eQe>K;e:?4jc@9C9;=_Ral4SIR%_laS9~"
def f617r0:=Qf "EAaj4ecA4f[$"
def f617C:=QH f617l0 f617r0 "Ed,Ve[Gn^gd])ezno4mapOmaOm_gcq4har`homsH`h4eVe4fauFt;^r!dUvag)eOwx4icy`igd])eWzJ94eVe4f[FK;4jVe`gr!jpL4kcM94l[9?a=a;>b~~~~"
abbrev f617:=Fn2 2 63 4 5 f617C
def f618l0:=Qf "Eh]^Jionhj9B@a<k;Eo^]Leopkqer!eTr4nasOnaOn_fWamf]t4gau`g+vH`dgf])dVxy4dcz9Cw~=_l]4mIl%_(m9~"
def f618r0:=Qf "EJad4ccJ$"
def f618C:=QH f618l0 f618r0 "EcVe9Ve9[9?a=a;>b~;"
abbrev f618:=Fn1 1 27 2 f618C
def f619C:=Qf "Ega&bGrq!iEparas6t^r!jrupav*t&awax6yabJzopJ%m*y&aK9q!iE4gaMFL;^ac)enNOa[c)eoQR4iWa4hcPmi]SGUahgi])h3UV4TaWOTaOT_jaX4kaYG.ahgi])ey./4Za0OZaOZ_la14ma2G4ahgi])jc4543a6O3aO3_nc74I8G:ahgi])jo:;4`<O`O9_pc=4qa>`jal8aEBaA5Bakam+CD*BE&[|a5|[Iq+|c|d*|b|e&[|f5|ganaps|0|h|i*|g|j&_ga|k#~~~~" [.o 62 (.eqb false (.t 60) (.t 61))]
abbrev f619:=Fn1 3 78 6 f619C
def f620l0:=Qf "Eionhg9B@a<iLbfhlj_eck9]Jlopm%m94ca&bFn~=bIh%_hao9~;"
def f620r0:=Qf "Ep^Jpooq%f4car$"
def f620C:=QH f620l0 f620r0 "Eca&bGf^Jf[9?a=a;>b~"
abbrev f620:=Fn1 1 18 2 f620C
def f621C:=Qf "E(&bGrq!iEparas6t^r!jeupav*t&awax6yabr!jezpaJ*y&aK9q!iE4(MFL;EO^r!jtO4NaPONaON_fcQ4gaRGT^r!juT4SaUOSaOS_hcV4iaWGY^r!jvY4XaZOXaOX_jc.4ka/G1^r!jx140a2O0aO0_lc34ma4G6^ab)jz6745a8O5aO5_na94I:G<^ab)jK<=4;a>O;aO;_pa?4qa@`gai+ABaC5Dakam+E|a*D|b&[|c5|daIq+|e|f*|d|g&[|h5|ianap8a7E|mN|i|l&[|m5|nafahs|0|o|p*|n|q&[|r5|sajals|0|t|u*|s|v&_(|w#~~~~;" [.g 78 (.eqb false (.t 76) (.t 77)) 75 true]
abbrev f621:=Fn1 2 90 4 f621C
def f622C:=Qf "EcVe[Gh^)h4h&e4gaiOgaOg_ecj4fak`fomlH`f4cVe4danFm;^r!h=o])h?pq4ccr4d[#~~"
abbrev f622:=Fn2 1 18 2 3 f622C
def f623C:=Qf "EcVe[Gh^)eJh&e4gaiOgaOg_ecj4fak`fomlH`f4cVe4danFm;^r!dUo])eOpq4ccr4d[#~~"
abbrev f623:=Fn2 1 18 2 3 f623C
def f624l0:=Qf "EyahoqyH9B@a<z;ELagr!c>LahahIO%bt!k<MNP4icQGSaiagahLeTUkVe)h3SW4RaXORaOR_jaY4kaZ`j`i4gc/9C.~;=_Jah4KobJ%_haK9~"
def f624r0:=Qf "E0ag4cc04d[$"
def f624C:=QH f624l0 f624r0 "EcVe[Gm^)h4m&e4lanOlaOl_eco4fap`fomqH`f4cVe4dasFr~^r!gft4gcu9^Jvobw%_hax9?a=a;>b~~"
abbrev f624:=Fn2 1 46 2 3 f624C
def f626l0:=Qf "EzahoqzH9B@a<J;EMagah)jyMN4icOGQaiagahLeRSkTe)eyQU4PaVOPaOP_jaW4kaX`j`i4gcZ9CY~;=_Kah4LobK%_haL9~"
def f626r0:=Qf "E.ag4cc.4d[$"
def f626C:=QH f626l0 f626r0 "EcVe[Gm^)eJm&e4lanOlaOl_eco4fap`fomqH`f4cVe4dasFr~8aEu^K;etu4gcv9^Jwobx%_hay9?a=a;>b~~" [.o 19 (.mksl 4 [])]
abbrev f626:=Fn2 1 44 2 3 f626C
def f627C:=Qf "EeVe98aEg^abTeg&chK;efi^abIl%bTekm&cK;ejn4eco:A~" [.o 5 (.mksl 4 [])]
abbrev f627:=Fn1 2 15 4 f627C
def f628l0:=Qf "Eronqp9B@a<rLboqls_hctGvah)h4v&e4uawOuaOu_icx4jay`jomzH`j4(&_faKFJ~;=bIq%_qaL9~;"
def f628r0:=Qf "EN^ab)jJNO4MaPOMaOM_kaQ4laR`kpaSaT6UalomVH*U&aW`l4(&_faYFX~a[a)jJZ.O/aO/_(04fa1#~"
def f628C:=QH f628l0 f628r0 "E(&b[Gm^abRbmnJo[9?a=a;>b~"
abbrev f628:=Fn2 2 47 4 5 f628C
def f629l0:=Qf "Enonml9B@a<nLekmkoe4hWamh]pGr^gh])h3rs4qatOqaOq_iau4jav`ipawax6yajomzH*y&aJ`j4(&_faLFK~;=bIm%_maM9~;"
def f629r0:=Qf "E(&a[$"
def f629C:=QH f629l0 f629r0 "E(&b[GkabJk[9?a=a;>b~"
abbrev f629:=Fn2 2 30 4 5 f629C
def f630C:=Qf "E(&b[Gn^)eJn&e4maoOmaOm_gcp4haq`homrH`h4(&_fatFs~Evab)eJv&e4uawOuaOu_icx4jay`jomzH`j4(&_faKFJ~EM^ab)jLMN4LaOOLaOL_kaP4laQ`kpaRaS6TalomUH*T&aV`l4(&_faXFW~a[a)jLYZO.aO._(/4fa0#~~;"
abbrev f630:=Fn2 2 46 4 5 f630C
def f631l0:=Qf "EjagabJkonjl9B@a<m;Eq^a[gLerskte)eyqu4pavOpaOp_haw4iax`iomy%^z6JahpaK*J&aL`i4(&_faNFM~=_nag4oIn%_gao9~"
def f631r0:=Qf "E(&a[$"
def f631C:=QH f631l0 f631r0 "E(&b[9[9?a=a;>b~"
abbrev f631:=Fn2 2 31 4 5 f631C
def f726l0:=Qf "Elaj^Jmonln9B@a<o;Era[jLbrsltbomu%^v5wacr!e@xa[jLbzJlKbr!e@Lod&3MopyN*wO&b:4ga&h4ha&bFP;^ajLbQRjS[ca[jLbVWlXbocUYobTZ4ka.:akr!e@/op0&T94ga&h4ha&bF1;aiakQb38a4ia59~;=_paj4qIp%_jaq9~" [.o 50 (.appM 8 1 (.t 47) (.t 49))]
def f726r0:=Qf "E6ai4ga64ha&a$"
def f726C:=QH f726l0 f726r0 "Ega&ha&b`&h9[9?a=a;>b~;"
abbrev f726:ZR:=⟨3,52,[.tmp 6,.tmp 7],f726C,true⟩
def f727C:=Qf "EgVeGi^a[c^Jl8aGI[c+op9^4gYreFq;^Js4hat9^abTeu&cv^acTexy&c8_^J:EK^^JLah8c8dGP^4gYPe#~~~;" [.o 13 (.slcc 4 (.t 8) (some (.t 9)) (.t 10) (.t 12)),.o 26 (.appM 56 4 (.t 22) (.t 25)),.o 31 (.slcx 4 (.t 27) (some (.t 29)) (some (.t 30))),.n (.clr 4 (.t 31))]
abbrev f727:=Fn1 3 33 6 f727C
def f728l0:=Qf "EM]ebdhb,JOonMP9B@a<Q;ETadebdhbd[eLeVWkXer!k=Y)k>TZ4dc.9=_R]4SIR%_(S9~"
def f728r0:=Qf "E/cd4cc/$"
def f728C:=QH f728l0 f728r0 "daVeGfe[h[b+g%dah5iebbhbbb+k&r*il&[m5nebdhb,Jp+qH*nr&b94cVeFs;e[h[bomu%dav6webbhbbbomy&f*w&az9g[eQeK4ccLFJ;4dVe94e[9?a=a;>b~~;"
abbrev f728:=Fn1 1 45 2 f728C
def f729l0:=Qf "EkagabJlonkm9B@a<n;Eqafa[gLerskte)k?qu4fcv9=_Ig4pIo%_gap9~"
def f729r0:=Qf "Ewcf4ecw$"
def f729C:=QH f729l0 f729r0 "EeVe98aEi^K;ehi4fcj94g[9?a=a;>b~;" [.o 7 (.mksl 4 [])]
abbrev f729:=Fn1 2 23 4 f729C
def f730l0:=Qf "EIg^Jponoq9B@a<r;Eu^agLeuvkwegd]s|wxypaz:cf^agLeLMkNeQeOK;eKP4fcQ9CJ;=_sag4tIs%_gat9~"
def f730r0:=Qf "ERcf4ecR$"
def f730C:=QH f730l0 f730r0 "Ed,VeGh^gd])d4hipaj9^gd])k@lm4ecnFk;4fVe94g[9?a=a;>b~~"
abbrev f730:=Fn1 2 35 4 f730C
def f731l0:=Qf "Ejah^Jkonjl9B@a<m;Epgd]^ahLeqrkses|xpt4iau:agpavaw5xaiooyH*xz&b94ga&a`ionKH9cfgd]QeNK;eMO4fcP9CL~CJ;cf^ahLeRSkTeQeUK;eQV4fcW9~=_nah4oIn%_hao9~"
def f731r0:=Qf "EXagpaX9cfgd]Qe.K;eZ/4fc09CY;cf4ec1#~"
def f731C:=QH f731l0 f731r0 "Ed,Ve9Ve`&b9[9?a=a;>b~~"
abbrev f731:=Fn1 2 47 4 f731C
def tbL:List (Nat×AFn):=([(6,f6),(7,f7),(8,f8),(9,f9),(30,f30),(31,f31),(32,f32),(41,f41),(42,f42),(43,f43),(44,f44),(45,f45),(46,f46),(47,f47),(48,f48),(49,f49),(54,f54),(55,f55),(56,f56),(57,f57),(58,f58),(59,f59),(60,f60),(61,f61),(63,f63),(71,f71),(73,f73),(74,f74),(75,f75),(89,f89),(90,f90),(91,f91),(101,f101),(102,f102),(107,f107),(112,f112),(120,f120),(126,f126),(127,f127),(128,f128),(129,f129),(130,f130),(131,f131),(132,f132),(153,f153),(154,f154),(155,f155),(156,f156),(159,f159),(160,f160),(161,f161),(162,f162),(163,f163),(165,f165),(166,f166),(167,f167),(168,f168),(169,f169),(171,f171),(172,f172),(173,f173),(174,f174),(175,f175),(176,f176),(177,f177),(178,f178),(179,f179),(180,f180),(182,f182),(183,f183),(184,f184),(185,f185),(186,f186),(187,f187),(188,f188),(189,f189),(190,f190),(191,f191),(192,f192),(195,f195),(196,f196),(197,f197),(198,f198),(199,f199),(200,f200),(201,f201),(202,f202),(203,f203),(204,f204),(205,f205),(206,f206),(207,f207),(214,f214),(215,f215),(231,f231),(232,f232),(233,f233),(234,f234),(235,f235),(236,f236),(237,f237),(238,f238),(239,f239),(240,f240),(241,f241),(242,f242),(243,f243),(244,f244),(245,f245),(246,f246),(247,f247),(248,f248),(249,f249),(250,f250),(251,f251),(252,f252),(253,f253),(254,f254),(255,f255),(256,f256),(257,f257),(258,f258),(259,f259),(260,f260),(261,f261),(262,f262),(263,f263),(265,f265),(281,f281),(282,f282),(283,f283),(284,f284),(292,f292),(293,f293),(294,f294),(295,f295),(296,f296),(297,f297),(298,f298),(299,f299),(300,f300),(301,f301),(302,f302),(303,f303),(304,f304),(305,f305),(306,f306),(307,f307),(308,f308),(309,f309),(310,f310),(311,f311),(312,f312),(313,f313),(314,f314),(315,f315),(316,f316),(317,f317),(318,f318),(319,f319),(320,f320),(321,f321),(322,f322),(323,f323),(324,f324),(325,f325),(326,f326),(329,f329),(330,f330),(363,f363),(373,f373),(375,f375),(378,f378),(418,f418),(497,f497),(511,f511),(512,f512),(517,f517),(518,f518),(519,f519),(520,f520),(521,f521),(522,f522),(523,f523),(524,f524),(527,f527),(528,f528),(529,f529),(530,f530),(531,f531),(532,f532),(533,f533),(534,f534),(535,f535),(536,f536),(537,f537),(538,f538),(539,f539),(540,f540),(541,f541),(542,f542),(543,f543),(544,f544),(545,f545),(546,f546),(547,f547),(548,f548),(549,f549),(550,f550),(551,f551),(552,f552),(553,f553),(554,f554),(555,f555),(556,f556),(558,f558),(559,f559),(560,f560),(561,f561),(562,f562),(563,f563),(564,f564),(565,f565),(566,f566),(567,f567),(568,f568),(601,f601),(602,f602),(603,f603),(604,f604),(605,f605),(606,f606),(607,f607),(608,f608),(609,f609),(610,f610),(611,f611),(612,f612),(613,f613),(614,f614),(615,f615),(616,f616),(617,f617),(618,f618),(619,f619),(620,f620),(621,f621),(622,f622),(623,f623),(624,f624),(626,f626),(627,f627),(628,f628),(629,f629),(630,f630),(631,f631),(726,f726),(727,f727),(728,f728),(729,f729),(730,f730),(731,f731)].map fun p=>(p.1,.code p.2))++ [(33,.orc (UL HO)),(164,.orc (UL Eh)),(170,.orc NR),(181,.orc (Ha 56 4)),(193,.orc (X2 true 56 4)),(194,.orc (Lr true 64 5)),(372,.orc (X2 false 24 1)),(407,.orc (X2 false 56 4)),(525,.orc (X2 true 56 4)),(526,.orc (Lr true 56 4)),(557,.orc (X2 true 64 5))]
def tb:Nat->Option AFn:=fun f=>tbL.lookup f
set_option maxRecDepth 20000
def tb_30:tb 30=some (.code f30):=rfl
def tb_31:tb 31=some (.code f31):=rfl
def tb_32:tb 32=some (.code f32):=rfl
def tb_33:tb 33=some (.orc (UL HO)):=rfl
def tb_164:tb 164=some (.orc (UL Eh)):=rfl
def tb_170:tb 170=some (.orc NR):=rfl
def tb_181:tb 181=some (.orc (Ha 56 4)):=rfl
def tb_193:tb 193=some (.orc (X2 true 56 4)):=rfl
def tb_194:tb 194=some (.orc (Lr true 64 5)):=rfl
def tb_372:tb 372=some (.orc (X2 false 24 1)):=rfl
def tb_407:tb 407=some (.orc (X2 false 56 4)):=rfl
def tb_525:tb 525=some (.orc (X2 true 56 4)):=rfl
def tb_526:tb 526=some (.orc (Lr true 56 4)):=rfl
def tb_557:tb 557=some (.orc (X2 true 64 5)):=rfl
end Go.Am.F
