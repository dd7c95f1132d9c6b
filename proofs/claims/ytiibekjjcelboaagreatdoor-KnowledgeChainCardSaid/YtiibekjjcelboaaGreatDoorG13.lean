/-
  AmCode.
-/
import Derived.Test.YtiibekjjcelboaaGreatDoorG09
import Derived.Test.YtiibekjjcelboaaGreatDoorG11
import Derived.Test.YtiibekjjcelboaaGreatDoorG12
set_option linter.unusedVariables false
set_option linter.unusedSimpArgs false
namespace Go.Am
abbrev Qn.o (d:Nat) (x:AOp):Qn:=⟨some d,x,none⟩
abbrev Qn.n (x:AOp):Qn:=⟨none,x,none⟩
abbrev Qn.g (d:Nat) (x:AOp) (t:Nat) (b:Bool):Qn:=⟨some d,x,some (t,b)⟩
abbrev AOp.m (n:Nat):AOp:= .mov (.t n)
abbrev AO.i (n:Int):AO:= .c (.int .i64 n)
abbrev Qn.M (d n:Nat):Qn:=⟨some d,.mov (.t n),none⟩
abbrev Qn.I (d:Nat) (n:Int):Qn:=⟨some d,.mov (.c (.int .i64 n)),none⟩
abbrev Qn.L (d s o z:Nat):Qn:=⟨some d,.ldf s o z true,none⟩
abbrev Qn.l (d s o z:Nat):Qn:=⟨some d,.ldf s o z false,none⟩
abbrev Qn.P (d c a:Nat):Qn:=⟨some d,.pick (.t c) (.t a) (.c (.bool false)),none⟩
abbrev Qn.Q (d c b:Nat):Qn:=⟨some d,.pick (.t c) (.c (.bool true)) (.t b),none⟩
abbrev Qn.S (s o z n:Nat):Qn:=⟨none,.stf s o z (.t n),none⟩
abbrev Qn.X (d z s i:Nat):Qn:=⟨some d,.idxa z (.t s) (.t i),none⟩
abbrev Qn.DT (d p z:Nat):Qn:=⟨some d,.ld p z true,none⟩
abbrev Qn.DF (d p z:Nat):Qn:=⟨some d,.ld p z false,none⟩
abbrev Qn.F (d s o:Nat):Qn:=⟨some d,.fad s o,none⟩
abbrev Qn.B (d:Nat) (p:BinOp) (x y:Nat):Qn:=⟨some d,.bin p (.t x) (.t y),none⟩
abbrev Qn.C (d:Nat) (p:BinOp) (x:Nat) (n:Int):Qn:=⟨some d,.bin p (.t x) (.c (.int .i64 n)),none⟩
abbrev Qn.N (d x:Nat):Qn:=⟨some d,.lenl (.t x),none⟩
abbrev Qn.E (d x i:Nat):Qn:=⟨some d,.ext (.t x) i,none⟩
abbrev Qn.b (d x:Nat):Qn:=⟨some d,.box (.t x),none⟩
abbrev Qn.f (d:Nat) (b:Bool):Qn:=⟨some d,.mov (.c (.bool b)),none⟩
abbrev Qn.A (d b z s x:Nat):Qn:=⟨some d,.app b z (.t s) (.t x),none⟩
abbrev Qn.T (d:Nat):Qn:=⟨some d,.alloc [.int .i64 0,.str [],.int .i64 0,.sl true 4 []],none⟩
abbrev AC.r (l:List Qn) (x:AC):AC:= .seq (.reg false l) x
abbrev AC.i (n:Nat) (x:AC):AC:= .cond (.t n) x .skip
abbrev Qn.Z (d k:Nat):Qn:=⟨some d,.mov (.c (.sl true k [])),none⟩
abbrev Qn.c (d f:Nat) (l:List AO):Qn:=⟨some d,.call f l,none⟩
abbrev AC.v (l:List Qn):AC:= .seq (.reg false l) .ret
abbrev AC.x (n i:Nat):AC:= .cond (.t n) .skip (.exit i)
abbrev AC.q (l:List Qn):AC:= .reg false l
abbrev AC.z (l:List Qn):AC:= .reg true l
abbrev zT:List AV:=[.int .i64 0,.str [],.int .i64 0,.sl true 4 []]
abbrev zG:List AV:=[.int .i64 0,.str [],.int .i64 0,.gs 0 0 0 0]
end Go.Am
namespace Go.Am.F
def f6C:AC:= .r [.b 1 0,.I 2 0] (.r [.o 3 (.galloc [.int .i64 0]),.o 4 (.galloc [.int .i64 0]),.n (.st 3 1 (.i 0)),.n (.st 4 1 (.i 0))] (.seq (.r [.L 6 1 0 4,.c 7 7 [.t 6,.i 1,.t 3,.t 4],.M 5 7] (.r [.M 8 5,.C 9 .neq 8 0] (.i 9 (.v [.M 10 5,.M 2 10])))) (.seq (.r [.o 11 (.ldg 3 1 false),.C 12 .gtr 11 400,.M 13 12,.g 14 (.ldg 4 1 false) 13 false,.g 15 (.bin .gtr (.t 14) (.i 40)) 13 false,.Q 16 13 15] (.i 16 (.v [.I 2 3]))) (.v [.I 2 0]))))
def f6:Qi:=⟨1,17,[.tmp 2],f6C,false⟩
@[simp] theorem f6B:f6.body=f6C∧f6.res=[.tmp 2]∧f6.keep=false:=⟨rfl,rfl,rfl⟩
def f7l0:AC:= .r [.B 60 .lss 59 58] (.seq (.x 60 1) (.seq (.block 2 (.r [.X 61 4 57 59,.DT 62 61 4,.T 10,.S 10 0 4 62] (.r [.L 63 10 0 4,.M 64 1,.C 65 .add 64 1,.M 66 2,.M 67 3,.c 68 7 [.t 63,.t 65,.t 66,.t 67],.M 11 68] (.r [.M 69 11,.C 70 .neq 69 0] (.i 70 (.v [.M 71 11,.M 8 71])))))) (.q [.C 72 .add 59 1,.M 59 72])))
def f7r0:AC:= .v [.I 8 0]
def f7C:AC:= .r [.b 4 0,.I 8 0] (.r [.M 12 2,.o 13 (.nilck (.t 12)),.o 14 (.ldg 13 1 false),.C 15 .add 14 1,.o 16 (.nilck (.t 12)),.n (.st 16 1 (.t 15))] (.r [.M 17 3,.M 18 3,.o 19 (.nilck (.t 18)),.o 20 (.ldg 19 1 false),.M 21 1,.o 22 (.mx (.t 20) (.t 21)),.o 23 (.nilck (.t 17)),.n (.st 23 1 (.t 22))] (.seq (.r [.F 24 4 0,.l 25 4 0 1] (.block 0 (.seq (.r [.C 27 .eql 25 1,.M 26 27] (.cond (.t 26) (.skip) (.q [.C 28 .eql 25 2,.M 26 28]))) (.cond (.t 26) (.r [.F 29 4 2,.l 30 4 2 1,.C 31 .lss 30 0,.M 32 31,.g 33 (.fad 4 2) 32 false,.g 34 (.ldf 4 2 1 false) 32 false,.g 35 (.bin .gtr (.t 34) (.i 5)) 32 false,.Q 36 32 35,.M 37 36,.g 38 (.fad 4 3) 37 false,.g 39 (.ldf 4 3 1 false) 37 false,.g 40 (.lenl (.t 39)) 37 false,.g 41 (.bin .gtr (.t 40) (.i 0)) 37 false,.Q 42 37 41] (.i 42 (.v [.I 8 1]))) (.r [.C 44 .eql 25 3,.M 43 44] (.cond (.t 43) (.r [.F 45 4 2,.l 46 4 2 1,.C 47 .neq 46 0] (.i 47 (.v [.I 8 1]))) (.v [.I 8 1]))))))) (.seq (.r [.F 48 4 1,.l 49 4 1 1,.c 50 8 [.t 49],.o 51 (.un .not (.t 50))] (.i 51 (.v [.I 8 2]))) (.seq (.r [.F 52 4 3,.l 53 4 3 1,.N 54 53,.C 55 .gtr 54 8] (.i 55 (.v [.I 8 3]))) (.seq (.r [.F 56 4 3,.l 57 4 3 1,.N 58 57,.I 59 0] (.block 1 (.loop (f7l0)))) (f7r0)))))))
def f7:Qi:=⟨4,73,[.tmp 8],f7C,false⟩
@[simp] theorem f7B:f7.body=f7C∧f7.res=[.tmp 8]∧f7.keep=false:=⟨rfl,rfl,rfl⟩
def f8l0:AC:= .r [.B 40 .lss 39 38] (.seq (.x 40 0) (.seq (.block 1 (.r [.M 41 39,.M 3 41] (.r [.M 42 0,.M 43 3,.o 44 (.idx (.t 42) (.t 43)),.c 45 9 [.t 44],.o 46 (.un .not (.t 45))] (.i 46 (.v [.f 2 false]))))) (.q [.C 47 .add 39 1,.M 39 47])))
def f8r0:AC:= .v [.f 2 true]
def f8C:AC:= .r [.f 2 false] (.seq (.r [.M 4 0,.o 5 (.bin .eql (.t 4) (.c (.str []))),.M 6 5,.g 7 (.m 0) 6 false,.g 8 (.lens (.t 7)) 6 false,.g 9 (.bin .gtr (.t 8) (.i 24)) 6 false,.Q 10 6 9,.M 11 10,.g 12 (.m 0) 11 false,.g 13 (.idx (.t 12) (.i 0)) 11 false,.g 14 (.call 9 [.t 13]) 11 false,.g 15 (.un .not (.t 14)) 11 false,.Q 16 11 15,.M 17 16,.g 18 (.m 0) 17 false,.g 19 (.idx (.t 18) (.i 0)) 17 false,.g 20 (.bin .geq (.t 19) (.c (.int .u8 48))) 17 false,.g 21 (.m 20) 17 false,.g 22 (.m 0) 21 true,.g 23 (.idx (.t 22) (.i 0)) 21 true,.g 24 (.bin .leq (.t 23) (.c (.int .u8 57))) 21 true,.g 25 (.pick (.t 21) (.t 24) (.c (.bool false))) 17 false,.Q 26 17 25,.M 27 26,.g 28 (.m 0) 27 false,.g 29 (.idx (.t 28) (.i 0)) 27 false,.g 30 (.bin .eql (.t 29) (.c (.int .u8 95))) 27 false,.Q 31 27 30,.M 32 31,.g 33 (.m 0) 32 false,.g 34 (.idx (.t 33) (.i 0)) 32 false,.g 35 (.bin .eql (.t 34) (.c (.int .u8 35))) 32 false,.Q 36 32 35] (.i 36 (.v [.f 2 false]))) (.seq (.r [.M 37 0,.o 38 (.lens (.t 37)),.I 39 0] (.block 0 (.loop (f8l0)))) (f8r0)))
def f8:Qi:=⟨1,48,[.tmp 2],f8C,false⟩
@[simp] theorem f8B:f8.body=f8C∧f8.res=[.tmp 2]∧f8.keep=false:=⟨rfl,rfl,rfl⟩
def f9C:AC:= .r [.f 2 false] (.v [.M 3 0,.o 4 (.bin .geq (.t 3) (.c (.int .u8 97))),.M 5 4,.g 6 (.m 0) 5 true,.g 7 (.bin .leq (.t 6) (.c (.int .u8 122))) 5 true,.P 8 5 7,.M 9 8,.g 10 (.m 0) 9 false,.g 11 (.bin .geq (.t 10) (.c (.int .u8 65))) 9 false,.g 12 (.m 11) 9 false,.g 13 (.m 0) 12 true,.g 14 (.bin .leq (.t 13) (.c (.int .u8 90))) 12 true,.g 15 (.pick (.t 12) (.t 14) (.c (.bool false))) 9 false,.Q 16 9 15,.M 17 16,.g 18 (.m 0) 17 false,.g 19 (.bin .geq (.t 18) (.c (.int .u8 48))) 17 false,.g 20 (.m 19) 17 false,.g 21 (.m 0) 20 true,.g 22 (.bin .leq (.t 21) (.c (.int .u8 57))) 20 true,.g 23 (.pick (.t 20) (.t 22) (.c (.bool false))) 17 false,.Q 24 17 23,.M 25 24,.g 26 (.m 0) 25 false,.g 27 (.bin .eql (.t 26) (.c (.int .u8 95))) 25 false,.Q 28 25 27,.M 29 28,.g 30 (.m 0) 29 false,.g 31 (.bin .eql (.t 30) (.c (.int .u8 35))) 29 false,.Q 32 29 31,.M 2 32])
def f9:Qi:=⟨1,33,[.tmp 2],f9C,false⟩
def f30l0:AC:= .seq (.r [.M 42 5,.C 43 .eql 42 0,.M 44 43,.g 45 (.m 6) 44 true,.g 46 (.fad 2 3) 44 true,.g 47 (.ldf 2 3 1 false) 44 true,.g 48 (.lenl (.t 47)) 44 true,.g 49 (.bin .lss (.t 45) (.t 48)) 44 true,.P 50 44 49] (.x 50 0)) (.seq (.block 1 (.z [.F 53 2 3,.l 54 2 3 1,.M 55 6,.X 56 4 54 55,.DT 57 56 4,.F 58 3 3,.l 59 3 3 1,.M 60 6,.X 61 4 59 60,.DT 62 61 4,.c 63 30 [.t 57,.t 62],.M 5 63])) (.q [.M 51 6,.C 52 .add 51 1,.M 6 52]))
def f30r0:AC:= .v [.M 64 5,.M 4 64]
def f30C:AC:= .r [.b 2 0,.b 3 1,.I 4 0] (.seq (.z [.L 7 2 0 4,.c 8 31 [.t 7],.L 9 3 0 4,.c 10 31 [.t 9],.c 11 32 [.t 8,.t 10],.M 5 11]) (.seq (.r [.M 12 5,.C 13 .eql 12 0] (.i 13 (.q [.F 14 2 0,.l 15 2 0 1,.F 16 3 0,.l 17 3 0 1,.c 18 32 [.t 15,.t 17],.M 5 18]))) (.seq (.r [.M 19 5,.C 20 .eql 19 0] (.i 20 (.q [.F 21 2 1,.l 22 2 1 1,.F 23 3 1,.l 24 3 1 1,.c 25 33 [.t 22,.t 24],.M 5 25]))) (.seq (.r [.M 26 5,.C 27 .eql 26 0] (.i 27 (.q [.F 28 2 2,.l 29 2 2 1,.F 30 3 2,.l 31 3 2 1,.c 32 32 [.t 29,.t 31],.M 5 32]))) (.seq (.r [.M 33 5,.C 34 .eql 33 0] (.i 34 (.q [.F 35 2 3,.l 36 2 3 1,.N 37 36,.F 38 3 3,.l 39 3 3 1,.N 40 39,.c 41 32 [.t 37,.t 40],.M 5 41]))) (.seq (.r [.I 6 0] (.block 0 (.loop (f30l0)))) (f30r0)))))))
def f30:Qi:=⟨2,65,[.tmp 4],f30C,false⟩
@[simp] theorem f30B:f30.body=f30C∧f30.res=[.tmp 4]∧f30.keep=false:=⟨rfl,rfl,rfl⟩
def f31l0:AC:= .r [.B 10 .lss 9 8] (.seq (.x 10 0) (.seq (.block 1 (.r [.X 11 4 7 9,.DT 12 11 4,.T 5,.S 5 0 4 12] (.q [.M 13 3,.L 14 5 0 4,.c 15 31 [.t 14],.B 16 .add 13 15,.M 3 16]))) (.q [.C 17 .add 9 1,.M 9 17])))
def f31r0:AC:= .v [.M 18 3,.M 2 18]
def f31C:AC:= .r [.b 1 0,.I 2 0] (.r [.I 3 1] (.seq (.r [.F 6 1 3,.l 7 1 3 1,.N 8 7,.I 9 0] (.block 0 (.loop (f31l0)))) (f31r0)))
def f31:Qi:=⟨1,19,[.tmp 2],f31C,false⟩
@[simp] theorem f31B:f31.body=f31C∧f31.res=[.tmp 2]∧f31.keep=false:=⟨rfl,rfl,rfl⟩
def f32C:AC:= .r [.I 4 0] (.seq (.block 0 (.r [.M 6 0,.M 7 1,.B 8 .lss 6 7,.M 5 8] (.cond (.t 5) (.v [.I 4 (-1)]) (.r [.M 10 0,.M 11 1,.B 12 .gtr 10 11,.M 9 12] (.i 9 (.v [.I 4 1])))))) (.v [.I 4 0]))
def f32:Qi:=⟨2,13,[.tmp 4],f32C,false⟩
def f41C:AC:= .r [.b 1 0,.I 2 0] (.seq (.r [.L 4 1 0 4,.c 5 6 [.t 4],.M 3 5] (.r [.M 6 3,.C 7 .neq 6 0] (.i 7 (.v [.M 8 3,.M 2 8])))) (.v [.L 9 1 0 4,.c 10 42 [.t 9],.M 2 10]))
def f41:Qi:=⟨1,11,[.tmp 2],f41C,false⟩
@[simp] theorem f41B:f41.body=f41C∧f41.res=[.tmp 2]∧f41.keep=false:=⟨rfl,rfl,rfl⟩
def f42l0:AC:= .r [.B 41 .lss 40 39] (.seq (.x 41 1) (.seq (.block 2 (.r [.X 42 4 38 40,.DT 43 42 4,.T 6,.S 6 0 4 43] (.r [.F 44 6 0,.l 45 6 0 1,.C 46 .eql 45 3,.M 47 46,.g 48 (.fad 6 2) 47 false,.g 49 (.ldf 6 2 1 false) 47 false,.g 50 (.bin .neq (.t 49) (.i 1)) 47 false,.Q 51 47 50] (.i 51 (.v [.I 2 10]))))) (.q [.C 52 .add 40 1,.M 40 52])))
def f42l1:AC:= .r [.B 65 .lss 64 63] (.seq (.x 65 3) (.seq (.block 4 (.r [.X 66 4 62 64,.DT 67 66 4,.T 8,.S 8 0 4 67] (.r [.L 68 8 0 4,.c 69 42 [.t 68],.M 9 69] (.r [.M 70 9,.C 71 .neq 70 0] (.i 71 (.v [.M 72 9,.M 2 72])))))) (.q [.C 73 .add 64 1,.M 64 73])))
def f42r0:AC:= .v [.I 2 0]
def f42r1:AC:= .seq (.r [.F 61 1 3,.l 62 1 3 1,.N 63 62,.I 64 0] (.block 3 (.loop (f42l1)))) (f42r0)
def f42C:AC:= .r [.b 1 0,.I 2 0] (.seq (.r [.F 10 1 0,.l 11 1 0 1,.C 12 .neq 11 3] (.i 12 (.v [.I 2 0]))) (.r [.F 13 1 1,.l 14 1 1 1,.c 15 43 [.t 14],.o 3 (.alloc [.str [],.int .i64 0,.int .i64 0,.int .i64 0]),.S 3 0 4 15] (.seq (.r [.F 16 3 3,.l 17 3 3 1,.C 18 .eql 17 0] (.i 18 (.v [.I 2 10]))) (.seq (.r [.F 19 1 3,.l 20 1 3 1,.N 21 20,.M 4 21] (.r [.M 22 4,.F 23 3 1,.l 24 3 1 1,.B 25 .lss 22 24,.M 26 25,.g 27 (.m 4) 26 false,.g 28 (.fad 3 2) 26 false,.g 29 (.ldf 3 2 1 false) 26 false,.g 30 (.bin .gtr (.t 27) (.t 29)) 26 false,.Q 31 26 30] (.i 31 (.v [.I 2 6])))) (.seq (.r [.F 32 1 1,.l 33 1 1 1] (.block 0 (.seq (.r [.o 35 (.bin .eql (.t 33) (.c (.str [115,107]))),.M 34 35] (.cond (.t 34) (.skip) (.q [.o 36 (.bin .eql (.t 33) (.c (.str [115,104,107]))),.M 34 36]))) (.cond (.t 34) (.r [.F 37 1 3,.l 38 1 3 1,.N 39 38,.I 40 0] (.block 1 (.loop (f42l0)))) (.r [.o 54 (.bin .eql (.t 33) (.c (.str [110,101,119]))),.M 53 54] (.i 53 (.r [.F 55 1 3,.l 56 1 3 1,.o 57 (.idxa 4 (.t 56) (.i 0)),.o 58 (.fadr 57 0),.DF 59 58 1,.C 60 .neq 59 2] (.i 60 (.v [.I 2 10]))))))))) (f42r1))))))
def f42:Qi:=⟨1,74,[.tmp 2],f42C,false⟩
@[simp] theorem f42B:f42.body=f42C∧f42.res=[.tmp 2]∧f42.keep=false:=⟨rfl,rfl,rfl⟩
def f43l0:AC:= .r [.B 8 .lss 7 6] (.seq (.x 8 0) (.seq (.block 1 (.r [.X 9 4 5 7,.DT 10 9 4,.o 4 (.alloc [.str [],.int .i64 0,.int .i64 0,.int .i64 0]),.S 4 0 4 10] (.r [.F 11 4 0,.l 12 4 0 1,.M 13 0,.B 14 .eql 12 13] (.i 14 (.v [.L 15 4 0 4,.S 2 0 4 15]))))) (.q [.C 16 .add 7 1,.M 7 16])))
def f43r0:AC:= .v [.o 17 (.mkst [.str [],.int .i64 0,.int .i64 0,.int .i64 0] []),.S 2 0 4 17]
def f43C:AC:= .r [.o 2 (.alloc [.str [],.int .i64 0,.int .i64 0,.int .i64 0])] (.seq (.r [.c 5 44 [],.N 6 5,.I 7 0] (.block 0 (.loop (f43l0)))) (f43r0))
def f43:Qi:=⟨1,18,[.cell 2 4 true],f43C,false⟩
@[simp] theorem f43B:f43.body=f43C∧f43.res=[.cell 2 4 true]∧f43.keep=false:=⟨rfl,rfl,rfl⟩
def f44C:AC:= .r [.Z 0 4] (.r [.o 1 (.galloc [.sl true 4 []])] (.r [.o 6 (.mkfn 45 [.t 1]),.M 2 6] (.r [.I 3 1,.I 4 2,.I 5 3] (.r [.M 7 2,.M 8 3,.o 9 (.callv (.t 7) [.t 8,.c (.str [112,97,105,114]),.i 2,.i 2])] (.r [.M 10 2,.M 11 3,.o 12 (.callv (.t 10) [.t 11,.c (.str [101,110,99]),.i 2,.i 2])] (.r [.M 13 2,.M 14 3,.o 15 (.callv (.t 13) [.t 14,.c (.str [97,101,110,99]),.i 2,.i 2])] (.r [.M 16 2,.M 17 3,.o 18 (.callv (.t 16) [.t 17,.c (.str [112,107]),.i 1,.i 1])] (.r [.M 19 2,.M 20 3,.o 21 (.callv (.t 19) [.t 20,.c (.str [115,105,103,110]),.i 2,.i 2])] (.r [.M 22 2,.M 23 3,.o 24 (.callv (.t 22) [.t 23,.c (.str [104,97,115,104]),.i 1,.i 1])] (.r [.M 25 2,.M 26 3,.o 27 (.callv (.t 25) [.t 26,.c (.str [120,111,114]),.i 2,.i 8])] (.r [.M 28 2,.M 29 3,.o 30 (.callv (.t 28) [.t 29,.c (.str [122,101,114,111]),.i 0,.i 0])] (.r [.M 31 2,.M 32 3,.o 33 (.callv (.t 31) [.t 32,.c (.str [101,120,112]),.i 2,.i 2])] (.r [.M 34 2,.M 35 3,.o 36 (.callv (.t 34) [.t 35,.c (.str [109,117,108]),.i 2,.i 8])] (.r [.M 37 2,.M 38 3,.o 39 (.callv (.t 37) [.t 38,.c (.str [105,110,118]),.i 1,.i 1])] (.r [.M 40 2,.M 41 3,.o 42 (.callv (.t 40) [.t 41,.c (.str [111,110,101]),.i 0,.i 0])] (.r [.M 43 2,.M 44 4,.o 45 (.callv (.t 43) [.t 44,.c (.str [115,107]),.i 1,.i 1])] (.r [.M 46 2,.M 47 4,.o 48 (.callv (.t 46) [.t 47,.c (.str [115,104,107]),.i 2,.i 2])] (.r [.M 49 2,.M 50 4,.o 51 (.callv (.t 49) [.t 50,.c (.str [110,101,119]),.i 1,.i 8])] (.r [.M 52 2,.M 53 5,.o 54 (.callv (.t 52) [.t 53,.c (.str [102,115,116]),.i 1,.i 1])] (.r [.M 55 2,.M 56 5,.o 57 (.callv (.t 55) [.t 56,.c (.str [115,110,100]),.i 1,.i 1])] (.r [.M 58 2,.M 59 5,.o 60 (.callv (.t 58) [.t 59,.c (.str [100,101,99]),.i 2,.i 2])] (.r [.M 61 2,.M 62 5,.o 63 (.callv (.t 61) [.t 62,.c (.str [97,100,101,99]),.i 2,.i 2])] (.r [.M 64 2,.M 65 5,.o 66 (.callv (.t 64) [.t 65,.c (.str [111,112,101,110]),.i 2,.i 2])] (.r [.M 67 2,.M 68 5,.o 69 (.callv (.t 67) [.t 68,.c (.str [114,101,97,100]),.i 1,.i 1])] (.v [.o 70 (.ldg 1 1 false),.o 0 (.mvs 70)])))))))))))))))))))))))))
def f44:Qi:=⟨0,71,[.tmp 0],f44C,false⟩
def f45C:AC:= .q [.o 9 (.ldm 4),.M 10 1,.M 11 2,.M 12 3,.M 13 0,.o 14 (.mkst [.str [],.int .i64 0,.int .i64 0,.int .i64 0] [(0,1,.t 10),(1,1,.t 11),(2,1,.t 12),(3,1,.t 13)]),.o 15 (.mksl 4 [.t 14]),.A 16 40 4 9 15,.n (.stm 4 16)]
def f45:Qi:=⟨5,17,[],f45C,false⟩
def f46C:AC:= .r [.b 1 0,.T 2] (.r [.L 6 1 0 4,.c 7 47 [.t 6,.c (.sl true 1 [])],.M 5 7,.E 8 5 0,.E 9 5 1,.T 3,.S 3 0 4 8,.M 4 9] (.v [.L 10 3 0 4,.S 2 0 4 10]))
def f46:Qi:=⟨1,11,[.cell 2 4 true],f46C,false⟩
def f47l0:AC:= .r [.B 11 .lss 10 9] (.seq (.x 11 0) (.seq (.block 1 (.r [.X 12 1 8 10,.DF 13 12 1,.M 7 13] (.seq (.r [.M 14 7,.C 15 .lss 14 0,.M 16 15,.g 17 (.m 7) 16 false,.g 18 (.fad 2 3) 16 false,.g 19 (.ldf 2 3 1 false) 16 false,.g 20 (.lenl (.t 19)) 16 false,.g 21 (.bin .geq (.t 17) (.t 20)) 16 false,.Q 22 16 21] (.i 22 (.v [.o 23 (.mkst zG []),.n (.stn 4 0 4 (.t 23) zT),.I 5 7]))) (.q [.F 24 2 3,.l 25 2 3 1,.M 26 7,.X 27 4 25 26,.DT 28 27 4,.S 2 0 4 28])))) (.q [.C 29 .add 10 1,.M 10 29])))
def f47r0:AC:= .v [.L 30 2 0 4,.c 31 48 [.t 30],.S 4 0 4 31,.I 5 0]
def f47C:AC:= .r [.b 2 0,.T 4,.I 5 0] (.seq (.r [.M 8 1,.N 9 8,.I 10 0] (.block 0 (.loop (f47l0)))) (f47r0))
def f47:Qi:=⟨2,32,[.cell 4 4 true,.tmp 5],f47C,false⟩
@[simp] theorem f47B:f47.body=f47C∧f47.res=[.cell 4 4 true,.tmp 5]∧f47.keep=false:=⟨rfl,rfl,rfl⟩
def f48l0:AC:= .r [.B 12 .lss 11 10] (.seq (.x 12 0) (.seq (.block 1 (.r [.X 13 4 9 11,.DT 14 13 4,.T 5,.S 5 0 4 14] (.z [.F 15 1 3,.o 16 (.ldfm 1 3),.L 17 5 0 4,.c 18 48 [.t 17],.o 19 (.mksl 4 [.t 18]),.A 20 56 4 16 19,.F 21 1 3,.n (.stfm 1 3 20)]))) (.q [.C 22 .add 11 1,.M 11 22])))
def f48r0:AC:= .v [.L 23 1 0 4,.S 2 0 4 23]
def f48C:AC:= .r [.b 1 0,.T 2] (.r [.F 6 1 3,.l 7 1 3 1,.o 3 (.mvs 7)] (.r [.F 8 1 3,.n (.stf 1 3 1 (.c (.sl true 4 [])))] (.seq (.r [.M 9 3,.N 10 9,.I 11 0] (.block 0 (.loop (f48l0)))) (f48r0))))
def f48:Qi:=⟨1,24,[.cell 2 4 true],f48C,false⟩
@[simp] theorem f48B:f48.body=f48C∧f48.res=[.cell 2 4 true]∧f48.keep=false:=⟨rfl,rfl,rfl⟩
def f49C:AC:= .r [.T 4] (.v [.M 5 0,.M 6 1,.o 7 (.mkst zT [(0,1,.i 3),(1,1,.t 5),(3,1,.t 6)]),.S 4 0 4 7])
def f49:Qi:=⟨2,8,[.cell 4 4 true],f49C,false⟩
def f54C:AC:= .r [.b 1 0,.I 2 0] (.seq (.r [.L 4 1 0 4,.c 5 55 [.t 4],.M 3 5] (.r [.M 6 3,.C 7 .neq 6 0] (.i 7 (.v [.M 8 3,.M 2 8])))) (.seq (.r [.L 9 1 0 4,.c 10 60 [.t 9],.C 11 .gtr 10 400,.M 12 11,.g 13 (.ldf 1 0 4 true) 12 false,.g 14 (.call 61 [.t 13]) 12 false,.g 15 (.bin .gtr (.t 14) (.i 40)) 12 false,.Q 16 12 15] (.i 16 (.v [.I 2 3]))) (.v [.I 2 0])))
def f54:Qi:=⟨1,17,[.tmp 2],f54C,false⟩
@[simp] theorem f54B:f54.body=f54C∧f54.res=[.tmp 2]∧f54.keep=false:=⟨rfl,rfl,rfl⟩
def f55l0:AC:= .seq (.r [.M 11 4,.F 12 1 3,.l 13 1 3 1,.N 14 13,.B 15 .lss 11 14] (.x 15 0)) (.seq (.block 1 (.r [.F 18 1 3,.l 19 1 3 1,.M 20 4,.X 21 4 19 20,.DT 22 21 4,.c 23 55 [.t 22],.M 5 23] (.r [.M 24 5,.C 25 .neq 24 0] (.i 25 (.v [.M 26 5,.M 2 26]))))) (.q [.M 16 4,.C 17 .add 16 1,.M 4 17]))
def f55r0:AC:= .v [.I 2 0]
def f55C:AC:= .r [.b 1 0,.I 2 0] (.seq (.r [.L 6 1 0 4,.c 7 56 [.t 6],.M 3 7] (.r [.M 8 3,.C 9 .neq 8 0] (.i 9 (.v [.M 10 3,.M 2 10])))) (.seq (.r [.I 4 0] (.block 0 (.loop (f55l0)))) (f55r0)))
def f55:Qi:=⟨1,27,[.tmp 2],f55C,false⟩
@[simp] theorem f55B:f55.body=f55C∧f55.res=[.tmp 2]∧f55.keep=false:=⟨rfl,rfl,rfl⟩
def f56C:AC:= .r [.b 1 0,.I 2 0] (.r [.F 4 1 0,.l 5 1 0 1,.C 6 .eql 5 1,.M 7 6,.g 8 (.fad 1 0) 7 false,.g 9 (.ldf 1 0 1 false) 7 false,.g 10 (.bin .eql (.t 9) (.i 2)) 7 false,.Q 11 7 10,.M 3 11] (.seq (.r [.M 12 3,.o 13 (.un .not (.t 12)),.M 14 13,.g 15 (.fad 1 0) 14 true,.g 16 (.ldf 1 0 1 false) 14 true,.g 17 (.bin .neq (.t 16) (.i 3)) 14 true,.P 18 14 17,.M 19 18,.g 20 (.fad 1 2) 19 false,.g 21 (.ldf 1 2 1 false) 19 false,.g 22 (.bin .lss (.t 21) (.i 0)) 19 false,.Q 23 19 22,.M 24 23,.g 25 (.fad 1 2) 24 false,.g 26 (.ldf 1 2 1 false) 24 false,.g 27 (.bin .gtr (.t 26) (.i 5)) 24 false,.Q 28 24 27,.M 29 28,.g 30 (.m 3) 29 false,.g 31 (.un .not (.t 30)) 29 false,.g 32 (.m 31) 29 false,.g 33 (.fad 1 2) 32 true,.g 34 (.ldf 1 2 1 false) 32 true,.g 35 (.bin .neq (.t 34) (.i 0)) 32 true,.g 36 (.pick (.t 32) (.t 35) (.c (.bool false))) 29 false,.Q 37 29 36,.M 38 37,.g 39 (.m 3) 38 false,.g 40 (.m 39) 38 false,.g 41 (.fad 1 3) 40 true,.g 42 (.ldf 1 3 1 false) 40 true,.g 43 (.lenl (.t 42)) 40 true,.g 44 (.bin .gtr (.t 43) (.i 0)) 40 true,.g 45 (.pick (.t 40) (.t 44) (.c (.bool false))) 38 false,.Q 46 38 45] (.i 46 (.v [.I 2 1]))) (.seq (.r [.F 47 1 1,.l 48 1 1 1,.c 49 57 [.t 48],.o 50 (.un .not (.t 49))] (.i 50 (.v [.I 2 2]))) (.seq (.r [.F 51 1 3,.l 52 1 3 1,.N 53 52,.C 54 .gtr 53 8] (.i 54 (.v [.I 2 3]))) (.v [.I 2 0])))))
def f56:Qi:=⟨1,55,[.tmp 2],f56C,false⟩
@[simp] theorem f56B:f56.body=f56C∧f56.res=[.tmp 2]∧f56.keep=false:=⟨rfl,rfl,rfl⟩
def f57l0:AC:= .seq (.r [.M 18 3,.M 19 0,.o 20 (.lens (.t 19)),.B 21 .lss 18 20] (.x 21 0)) (.seq (.block 1 (.r [.M 24 0,.M 25 3,.o 26 (.idx (.t 24) (.t 25)),.c 27 58 [.t 26],.o 28 (.un .not (.t 27)),.M 29 28,.g 30 (.m 0) 29 true,.g 31 (.m 3) 29 true,.g 32 (.idx (.t 30) (.t 31)) 29 true,.g 33 (.call 59 [.t 32]) 29 true,.g 34 (.un .not (.t 33)) 29 true,.P 35 29 34,.M 36 35,.g 37 (.m 0) 36 true,.g 38 (.m 3) 36 true,.g 39 (.idx (.t 37) (.t 38)) 36 true,.g 40 (.bin .neq (.t 39) (.c (.int .u8 95))) 36 true,.P 41 36 40,.M 42 41,.g 43 (.m 0) 42 true,.g 44 (.m 3) 42 true,.g 45 (.idx (.t 43) (.t 44)) 42 true,.g 46 (.bin .neq (.t 45) (.c (.int .u8 35))) 42 true,.P 47 42 46] (.i 47 (.v [.f 2 false])))) (.q [.M 22 3,.C 23 .add 22 1,.M 3 23]))
def f57r0:AC:= .v [.f 2 true]
def f57C:AC:= .r [.f 2 false] (.seq (.r [.M 4 0,.o 5 (.lens (.t 4)),.C 6 .eql 5 0,.M 7 6,.g 8 (.m 0) 7 false,.g 9 (.lens (.t 8)) 7 false,.g 10 (.bin .gtr (.t 9) (.i 24)) 7 false,.Q 11 7 10,.M 12 11,.g 13 (.m 0) 12 false,.g 14 (.idx (.t 13) (.i 0)) 12 false,.g 15 (.call 58 [.t 14]) 12 false,.g 16 (.un .not (.t 15)) 12 false,.Q 17 12 16] (.i 17 (.v [.f 2 false]))) (.seq (.r [.I 3 0] (.block 0 (.loop (f57l0)))) (f57r0)))
def f57:Qi:=⟨1,48,[.tmp 2],f57C,false⟩
@[simp] theorem f57B:f57.body=f57C∧f57.res=[.tmp 2]∧f57.keep=false:=⟨rfl,rfl,rfl⟩
def f58C:AC:= .r [.f 2 false] (.v [.M 3 0,.o 4 (.bin .geq (.t 3) (.c (.int .u8 97))),.M 5 4,.g 6 (.m 0) 5 true,.g 7 (.bin .leq (.t 6) (.c (.int .u8 122))) 5 true,.P 8 5 7,.M 9 8,.g 10 (.m 0) 9 false,.g 11 (.bin .geq (.t 10) (.c (.int .u8 65))) 9 false,.g 12 (.m 11) 9 false,.g 13 (.m 0) 12 true,.g 14 (.bin .leq (.t 13) (.c (.int .u8 90))) 12 true,.g 15 (.pick (.t 12) (.t 14) (.c (.bool false))) 9 false,.Q 16 9 15,.M 2 16])
def f58:Qi:=⟨1,17,[.tmp 2],f58C,false⟩
def f59C:AC:= .r [.f 2 false] (.v [.M 3 0,.o 4 (.bin .geq (.t 3) (.c (.int .u8 48))),.M 5 4,.g 6 (.m 0) 5 true,.g 7 (.bin .leq (.t 6) (.c (.int .u8 57))) 5 true,.P 8 5 7,.M 2 8])
def f59:Qi:=⟨1,9,[.tmp 2],f59C,false⟩
def f60l0:AC:= .seq (.r [.M 5 4,.F 6 1 3,.l 7 1 3 1,.N 8 7,.B 9 .lss 5 8] (.x 9 0)) (.seq (.block 1 (.q [.M 12 3,.F 13 1 3,.l 14 1 3 1,.M 15 4,.X 16 4 14 15,.DT 17 16 4,.c 18 60 [.t 17],.B 19 .add 12 18,.M 3 19])) (.q [.M 10 4,.C 11 .add 10 1,.M 4 11]))
def f60r0:AC:= .v [.M 20 3,.M 2 20]
def f60C:AC:= .r [.b 1 0,.I 2 0] (.r [.I 3 1] (.seq (.r [.I 4 0] (.block 0 (.loop (f60l0)))) (f60r0)))
def f60:Qi:=⟨1,21,[.tmp 2],f60C,false⟩
@[simp] theorem f60B:f60.body=f60C∧f60.res=[.tmp 2]∧f60.keep=false:=⟨rfl,rfl,rfl⟩
def f61l0:AC:= .seq (.r [.M 5 4,.F 6 1 3,.l 7 1 3 1,.N 8 7,.B 9 .lss 5 8] (.x 9 0)) (.seq (.block 1 (.q [.M 12 3,.F 13 1 3,.l 14 1 3 1,.M 15 4,.X 16 4 14 15,.DT 17 16 4,.c 18 61 [.t 17],.o 19 (.mx (.t 12) (.t 18)),.M 3 19])) (.q [.M 10 4,.C 11 .add 10 1,.M 4 11]))
def f61r0:AC:= .v [.M 20 3,.C 21 .add 20 1,.M 2 21]
def f61C:AC:= .r [.b 1 0,.I 2 0] (.r [.I 3 0] (.seq (.r [.I 4 0] (.block 0 (.loop (f61l0)))) (f61r0)))
def f61:Qi:=⟨1,22,[.tmp 2],f61C,false⟩
@[simp] theorem f61B:f61.body=f61C∧f61.res=[.tmp 2]∧f61.keep=false:=⟨rfl,rfl,rfl⟩
def f63C:AC:= .r [.o 2 (.mov (.c (.str [])))] (.v [.o 3 (.mksl 1 [.c (.str [97,110,121]),.c (.str [97,103,101,110,116]),.c (.str [110,111,110,99,101]),.c (.str [107,101,121]),.c (.str [100,97,116,97]),.c (.str [116,97,103])]),.M 4 0,.X 5 1 3 4,.DF 6 5 1,.M 2 6])
def f63:Qi:=⟨1,7,[.tmp 2],f63C,false⟩
def f71C:AC:= .r [.b 2 0,.f 4 false] (.v [.F 5 2 0,.l 6 2 0 1,.C 7 .eql 6 3,.M 8 7,.g 9 (.fad 2 1) 8 true,.g 10 (.ldf 2 1 1 false) 8 true,.g 11 (.m 1) 8 true,.g 12 (.bin .eql (.t 10) (.t 11)) 8 true,.P 13 8 12,.M 4 13])
def f71:Qi:=⟨2,14,[.tmp 4],f71C,false⟩
def f73C:AC:= .r [.o 4 (.mov (.c (.str []))),.f 5 false] (.v [.M 6 0,.M 7 1,.c 8 74 [.t 6,.t 7],.E 9 8 0,.E 10 8 1,.M 4 9,.M 5 10])
def f73:Qi:=⟨2,11,[.tmp 4,.tmp 5],f73C,false⟩
@[simp] theorem f73B:f73.body=f73C∧f73.res=[.tmp 4,.tmp 5]∧f73.keep=false:=⟨rfl,rfl,rfl⟩
def f74C:AC:= .r [.o 4 (.mov (.c (.str []))),.f 5 false] (.seq (.r [.M 6 0,.M 7 1,.c 8 75 [.t 6,.t 7],.o 9 (.un .not (.t 8))] (.i 9 (.v [.M 10 0,.M 4 10,.f 5 false]))) (.v [.M 11 0,.M 12 1,.o 13 (.lens (.t 12)),.o 14 (.slcs (.t 11) (some (.t 13)) none),.M 4 14,.f 5 true]))
def f74:Qi:=⟨2,15,[.tmp 4,.tmp 5],f74C,false⟩
@[simp] theorem f74B:f74.body=f74C∧f74.res=[.tmp 4,.tmp 5]∧f74.keep=false:=⟨rfl,rfl,rfl⟩
def f75C:AC:= .r [.f 4 false] (.v [.M 5 0,.o 6 (.lens (.t 5)),.M 7 1,.o 8 (.lens (.t 7)),.B 9 .geq 6 8,.M 10 9,.g 11 (.m 0) 10 true,.g 12 (.m 1) 10 true,.g 13 (.lens (.t 12)) 10 true,.g 14 (.slcs (.t 11) none (some (.t 13))) 10 true,.g 15 (.m 1) 10 true,.g 16 (.bin .eql (.t 14) (.t 15)) 10 true,.P 17 10 16,.M 4 17])
def f75:Qi:=⟨2,18,[.tmp 4],f75C,false⟩
@[simp] theorem f75B:f75.body=f75C∧f75.res=[.tmp 4]∧f75.keep=false:=⟨rfl,rfl,rfl⟩
def f89C:AC:= .r [.b 2 0,.b 3 1,.f 4 false] (.v [.L 5 2 0 4,.L 6 3 0 4,.c 7 90 [.t 5,.t 6],.C 8 .eql 7 0,.M 4 8])
def f89:Qi:=⟨2,9,[.tmp 4],f89C,false⟩
def f90l0:AC:= .seq (.r [.M 55 9,.F 56 2 3,.l 57 2 3 1,.N 58 57,.B 59 .lss 55 58] (.x 59 0)) (.seq (.block 1 (.seq (.z [.F 62 2 3,.l 63 2 3 1,.M 64 9,.X 65 4 63 64,.DT 66 65 4,.F 67 3 3,.l 68 3 3 1,.M 69 9,.X 70 4 68 69,.DT 71 70 4,.c 72 90 [.t 66,.t 71],.M 10 72]) (.r [.M 73 10,.C 74 .neq 73 0] (.i 74 (.v [.M 75 10,.M 4 75]))))) (.q [.M 60 9,.C 61 .add 60 1,.M 9 61]))
def f90r0:AC:= .v [.I 4 0]
def f90C:AC:= .r [.b 2 0,.b 3 1,.I 4 0] (.seq (.seq (.z [.L 11 2 0 4,.c 12 60 [.t 11],.L 13 3 0 4,.c 14 60 [.t 13],.c 15 91 [.t 12,.t 14],.M 5 15]) (.r [.M 16 5,.C 17 .neq 16 0] (.i 17 (.v [.M 18 5,.M 4 18])))) (.seq (.r [.F 19 2 0,.l 20 2 0 1,.F 21 3 0,.l 22 3 0 1,.c 23 91 [.t 20,.t 22],.M 6 23] (.r [.M 24 6,.C 25 .neq 24 0] (.i 25 (.v [.M 26 6,.M 4 26])))) (.seq (.r [.F 27 2 1,.l 28 2 1 1,.F 29 3 1,.l 30 3 1 1,.B 31 .lss 28 30] (.i 31 (.v [.I 4 (-1)]))) (.seq (.r [.F 32 2 1,.l 33 2 1 1,.F 34 3 1,.l 35 3 1 1,.B 36 .gtr 33 35] (.i 36 (.v [.I 4 1]))) (.seq (.r [.F 37 2 2,.l 38 2 2 1,.F 39 3 2,.l 40 3 2 1,.c 41 91 [.t 38,.t 40],.M 7 41] (.r [.M 42 7,.C 43 .neq 42 0] (.i 43 (.v [.M 44 7,.M 4 44])))) (.seq (.r [.F 45 2 3,.l 46 2 3 1,.N 47 46,.F 48 3 3,.l 49 3 3 1,.N 50 49,.c 51 91 [.t 47,.t 50],.M 8 51] (.r [.M 52 8,.C 53 .neq 52 0] (.i 53 (.v [.M 54 8,.M 4 54])))) (.seq (.r [.I 9 0] (.block 0 (.loop (f90l0)))) (f90r0))))))))
def f90:Qi:=⟨2,76,[.tmp 4],f90C,false⟩
@[simp] theorem f90B:f90.body=f90C∧f90.res=[.tmp 4]∧f90.keep=false:=⟨rfl,rfl,rfl⟩
def f91C:AC:= .r [.I 4 0] (.seq (.r [.M 5 0,.M 6 1,.B 7 .lss 5 6] (.i 7 (.v [.I 4 (-1)]))) (.seq (.r [.M 8 0,.M 9 1,.B 10 .gtr 8 9] (.i 10 (.v [.I 4 1]))) (.v [.I 4 0])))
def f91:Qi:=⟨2,11,[.tmp 4],f91C,false⟩
def f107C:AC:= .r [.T 4] (.v [.M 5 0,.M 6 1,.o 7 (.mkst zG [(0,1,.i 2),(1,1,.t 5),(2,1,.t 6)]),.n (.stn 4 0 4 (.t 7) zT)])
def f107:Qi:=⟨2,8,[.cell 4 4 true],f107C,false⟩
def f112l0:AC:= .seq (.r [.M 11 5,.M 12 0,.N 13 12,.B 14 .lss 11 13] (.x 14 0)) (.seq (.block 1 (.seq (.z [.M 17 0,.M 18 5,.X 19 4 17 18,.DT 20 19 4,.M 21 1,.M 22 5,.X 23 4 21 22,.DT 24 23 4,.c 25 89 [.t 20,.t 24],.o 26 (.un .not (.t 25))]) (.i 26 (.v [.f 4 false])))) (.q [.M 15 5,.C 16 .add 15 1,.M 5 16]))
def f112r0:AC:= .v [.f 4 true]
def f112C:AC:= .r [.f 4 false] (.seq (.r [.M 6 0,.N 7 6,.M 8 1,.N 9 8,.B 10 .neq 7 9] (.i 10 (.v [.f 4 false]))) (.seq (.r [.I 5 0] (.block 0 (.loop (f112l0)))) (f112r0)))
def f112:Qi:=⟨2,27,[.tmp 4],f112C,false⟩
def f120C:AC:= .r [.T 4] (.v [.M 5 0,.o 6 (.mksl 4 []),.M 7 1,.A 8 56 4 6 7,.o 9 (.mkst zT [(0,1,.i 3),(1,1,.t 5),(3,1,.t 8)]),.S 4 0 4 9])
def f120:Qi:=⟨2,10,[.cell 4 4 true],f120C,false⟩
@[simp] theorem f120B:f120.body=f120C∧f120.res=[.cell 4 4 true]∧f120.keep=false:=⟨rfl,rfl,rfl⟩
def f126C:AC:= .r [.b 1 0,.I 2 0] (.seq (.r [.L 4 1 0 4,.c 5 54 [.t 4],.M 3 5] (.r [.M 6 3,.C 7 .neq 6 0] (.i 7 (.v [.M 8 3,.M 2 8])))) (.v [.L 9 1 0 4,.c 10 127 [.t 9],.M 2 10]))
def f126:Qi:=⟨1,11,[.tmp 2],f126C,false⟩
@[simp] theorem f126B:f126.body=f126C∧f126.res=[.tmp 2]∧f126.keep=false:=⟨rfl,rfl,rfl⟩
def f127l0:AC:= .seq (.r [.M 24 4,.F 25 1 3,.l 26 1 3 1,.N 27 26,.B 28 .lss 24 27] (.x 28 0)) (.seq (.block 1 (.r [.F 31 1 3,.l 32 1 3 1,.M 33 4,.X 34 4 32 33,.DT 35 34 4,.c 36 127 [.t 35],.M 5 36] (.r [.M 37 5,.C 38 .neq 37 0] (.i 38 (.v [.M 39 5,.M 2 39]))))) (.q [.M 29 4,.C 30 .add 29 1,.M 4 30]))
def f127r0:AC:= .v [.I 2 0]
def f127C:AC:= .r [.b 1 0,.I 2 0] (.seq (.r [.F 6 1 0,.l 7 1 0 1,.C 8 .neq 7 3] (.i 8 (.v [.I 2 0]))) (.r [.F 9 1 1,.l 10 1 1 1,.c 11 128 [.t 10],.M 3 11] (.seq (.r [.M 12 3,.C 13 .eql 12 0] (.i 13 (.v [.I 2 10]))) (.seq (.r [.L 14 1 0 4,.c 15 130 [.t 14],.o 16 (.un .not (.t 15))] (.i 16 (.v [.I 2 6]))) (.seq (.r [.M 17 3,.C 18 .eql 17 2,.M 19 18,.g 20 (.ldf 1 0 4 true) 19 true,.g 21 (.call 131 [.t 20]) 19 true,.g 22 (.un .not (.t 21)) 19 true,.P 23 19 22] (.i 23 (.v [.I 2 10]))) (.seq (.r [.I 4 0] (.block 0 (.loop (f127l0)))) (f127r0)))))))
def f127:Qi:=⟨1,40,[.tmp 2],f127C,false⟩
@[simp] theorem f127B:f127.body=f127C∧f127.res=[.tmp 2]∧f127.keep=false:=⟨rfl,rfl,rfl⟩
def f128l0:AC:= .seq (.r [.M 6 4,.M 7 3,.N 8 7,.B 9 .lss 6 8] (.x 9 0)) (.seq (.block 1 (.r [.M 12 3,.M 13 4,.X 14 4 12 13,.o 15 (.fadr 14 0),.DF 16 15 1,.M 17 0,.B 18 .eql 16 17] (.i 18 (.v [.M 19 3,.M 20 4,.X 21 4 19 20,.o 22 (.fadr 21 3),.DF 23 22 1,.M 2 23])))) (.q [.M 10 4,.C 11 .add 10 1,.M 4 11]))
def f128r0:AC:= .v [.I 2 0]
def f128C:AC:= .r [.I 2 0] (.r [.c 5 129 [],.o 3 (.mvs 5)] (.seq (.r [.I 4 0] (.block 0 (.loop (f128l0)))) (f128r0)))
def f128:Qi:=⟨1,24,[.tmp 2],f128C,false⟩
@[simp] theorem f128B:f128.body=f128C∧f128.res=[.tmp 2]∧f128.keep=false:=⟨rfl,rfl,rfl⟩
def f129C:AC:= .r [.Z 0 4] (.v [.o 1 (.mkst [.str [],.int .i64 0,.int .i64 0,.int .i64 0] [(0,1,.c (.str [112,97,105,114])),(1,1,.i 2),(2,1,.i 2),(3,1,.i 1)]),.o 2 (.mkst [.str [],.int .i64 0,.int .i64 0,.int .i64 0] [(0,1,.c (.str [101,110,99])),(1,1,.i 2),(2,1,.i 2),(3,1,.i 1)]),.o 3 (.mkst [.str [],.int .i64 0,.int .i64 0,.int .i64 0] [(0,1,.c (.str [97,101,110,99])),(1,1,.i 2),(2,1,.i 2),(3,1,.i 1)]),.o 4 (.mkst [.str [],.int .i64 0,.int .i64 0,.int .i64 0] [(0,1,.c (.str [112,107])),(1,1,.i 1),(2,1,.i 1),(3,1,.i 1)]),.o 5 (.mkst [.str [],.int .i64 0,.int .i64 0,.int .i64 0] [(0,1,.c (.str [115,105,103,110])),(1,1,.i 2),(2,1,.i 2),(3,1,.i 1)]),.o 6 (.mkst [.str [],.int .i64 0,.int .i64 0,.int .i64 0] [(0,1,.c (.str [104,97,115,104])),(1,1,.i 1),(2,1,.i 1),(3,1,.i 1)]),.o 7 (.mkst [.str [],.int .i64 0,.int .i64 0,.int .i64 0] [(0,1,.c (.str [120,111,114])),(1,1,.i 2),(2,1,.i 8),(3,1,.i 1)]),.o 8 (.mkst [.str [],.int .i64 0,.int .i64 0,.int .i64 0] [(0,1,.c (.str [122,101,114,111])),(3,1,.i 1)]),.o 9 (.mkst [.str [],.int .i64 0,.int .i64 0,.int .i64 0] [(0,1,.c (.str [101,120,112])),(1,1,.i 2),(2,1,.i 2),(3,1,.i 1)]),.o 10 (.mkst [.str [],.int .i64 0,.int .i64 0,.int .i64 0] [(0,1,.c (.str [109,117,108])),(1,1,.i 2),(2,1,.i 8),(3,1,.i 1)]),.o 11 (.mkst [.str [],.int .i64 0,.int .i64 0,.int .i64 0] [(0,1,.c (.str [105,110,118])),(1,1,.i 1),(2,1,.i 1),(3,1,.i 1)]),.o 12 (.mkst [.str [],.int .i64 0,.int .i64 0,.int .i64 0] [(0,1,.c (.str [111,110,101])),(3,1,.i 1)]),.o 13 (.mkst [.str [],.int .i64 0,.int .i64 0,.int .i64 0] [(0,1,.c (.str [115,107])),(1,1,.i 1),(2,1,.i 1),(3,1,.i 2)]),.o 14 (.mkst [.str [],.int .i64 0,.int .i64 0,.int .i64 0] [(0,1,.c (.str [115,104,107])),(1,1,.i 2),(2,1,.i 2),(3,1,.i 2)]),.o 15 (.mkst [.str [],.int .i64 0,.int .i64 0,.int .i64 0] [(0,1,.c (.str [110,101,119])),(1,1,.i 1),(2,1,.i 8),(3,1,.i 2)]),.o 16 (.mkst [.str [],.int .i64 0,.int .i64 0,.int .i64 0] [(0,1,.c (.str [102,115,116])),(1,1,.i 1),(2,1,.i 1),(3,1,.i 3)]),.o 17 (.mkst [.str [],.int .i64 0,.int .i64 0,.int .i64 0] [(0,1,.c (.str [115,110,100])),(1,1,.i 1),(2,1,.i 1),(3,1,.i 3)]),.o 18 (.mkst [.str [],.int .i64 0,.int .i64 0,.int .i64 0] [(0,1,.c (.str [100,101,99])),(1,1,.i 2),(2,1,.i 2),(3,1,.i 3)]),.o 19 (.mkst [.str [],.int .i64 0,.int .i64 0,.int .i64 0] [(0,1,.c (.str [97,100,101,99])),(1,1,.i 2),(2,1,.i 2),(3,1,.i 3)]),.o 20 (.mkst [.str [],.int .i64 0,.int .i64 0,.int .i64 0] [(0,1,.c (.str [111,112,101,110])),(1,1,.i 2),(2,1,.i 2),(3,1,.i 3)]),.o 21 (.mkst [.str [],.int .i64 0,.int .i64 0,.int .i64 0] [(0,1,.c (.str [114,101,97,100])),(1,1,.i 1),(2,1,.i 1),(3,1,.i 3)]),.o 22 (.mksl 4 [.t 1,.t 2,.t 3,.t 4,.t 5,.t 6,.t 7,.t 8,.t 9,.t 10,.t 11,.t 12,.t 13,.t 14,.t 15,.t 16,.t 17,.t 18,.t 19,.t 20,.t 21]),.o 0 (.mvs 22)])
def f129:Qi:=⟨0,23,[.tmp 0],f129C,false⟩
def f130l0:AC:= .seq (.r [.M 6 4,.M 7 3,.N 8 7,.B 9 .lss 6 8] (.x 9 0)) (.seq (.block 1 (.seq (.z [.M 12 3,.M 13 4,.X 14 4 12 13,.o 15 (.fadr 14 0),.DF 16 15 1,.F 17 1 1,.l 18 1 1 1,.B 19 .eql 16 18]) (.i 19 (.seq (.z [.F 20 1 3,.l 21 1 3 1,.N 22 21,.M 23 3,.M 24 4,.X 25 4 23 24,.o 26 (.fadr 25 1),.DF 27 26 1,.B 28 .geq 22 27,.M 29 28,.g 30 (.fad 1 3) 29 true,.g 31 (.ldf 1 3 1 false) 29 true,.g 32 (.lenl (.t 31)) 29 true,.g 33 (.m 3) 29 true,.g 34 (.m 4) 29 true,.g 35 (.idxa 4 (.t 33) (.t 34)) 29 true,.g 36 (.fadr 35 2) 29 true,.g 37 (.ld 36 1 false) 29 true,.g 38 (.bin .leq (.t 32) (.t 37)) 29 true,.P 39 29 38,.M 2 39]) (.ret))))) (.q [.M 10 4,.C 11 .add 10 1,.M 4 11]))
def f130r0:AC:= .v [.f 2 false]
def f130C:AC:= .r [.b 1 0,.f 2 false] (.r [.c 5 129 [],.o 3 (.mvs 5)] (.seq (.r [.I 4 0] (.block 0 (.loop (f130l0)))) (f130r0)))
def f130:Qi:=⟨1,40,[.tmp 2],f130C,false⟩
@[simp] theorem f130B:f130.body=f130C∧f130.res=[.tmp 2]∧f130.keep=false:=⟨rfl,rfl,rfl⟩
def f131l0:AC:= .seq (.r [.M 13 3,.F 14 1 3,.l 15 1 3 1,.N 16 15,.B 17 .lss 13 16] (.x 17 0)) (.seq (.block 1 (.r [.F 20 1 3,.l 21 1 3 1,.M 22 3,.X 23 4 21 22,.o 24 (.fadr 23 0),.DF 25 24 1,.C 26 .eql 25 3,.M 27 26,.g 28 (.fad 1 3) 27 false,.g 29 (.ldf 1 3 1 false) 27 false,.g 30 (.m 3) 27 false,.g 31 (.idxa 4 (.t 29) (.t 30)) 27 false,.g 32 (.fadr 31 2) 27 false,.g 33 (.ld 32 1 false) 27 false,.g 34 (.bin .neq (.t 33) (.i 1)) 27 false,.Q 35 27 34] (.i 35 (.v [.f 2 false])))) (.q [.M 18 3,.C 19 .add 18 1,.M 3 19]))
def f131r0:AC:= .v [.f 2 true]
def f131C:AC:= .r [.b 1 0,.f 2 false] (.seq (.r [.F 4 1 1,.l 5 1 1 1,.o 6 (.bin .eql (.t 5) (.c (.str [110,101,119])))] (.i 6 (.v [.F 7 1 3,.l 8 1 3 1,.o 9 (.idxa 4 (.t 8) (.i 0)),.o 10 (.fadr 9 0),.DF 11 10 1,.C 12 .eql 11 2,.M 2 12]))) (.seq (.r [.I 3 0] (.block 0 (.loop (f131l0)))) (f131r0)))
def f131:Qi:=⟨1,36,[.tmp 2],f131C,false⟩
@[simp] theorem f131B:f131.body=f131C∧f131.res=[.tmp 2]∧f131.keep=false:=⟨rfl,rfl,rfl⟩
def f132C:AC:= .r [.b 2 0,.f 4 false] (.v [.F 5 2 0,.l 6 2 0 1,.C 7 .eql 6 3,.M 8 7,.g 9 (.fad 2 1) 8 true,.g 10 (.ldf 2 1 1 false) 8 true,.g 11 (.m 1) 8 true,.g 12 (.bin .eql (.t 10) (.t 11)) 8 true,.P 13 8 12,.M 4 13])
def f132:Qi:=⟨2,14,[.tmp 4],f132C,false⟩
def f153C:AC:= .r [.T 2,.I 3 0] (.r [.M 9 0,.c 10 154 [.t 9,.i 800],.M 8 10,.E 11 8 0,.E 12 8 1,.E 13 8 2,.T 4,.S 4 0 4 11,.M 5 12,.M 6 13] (.seq (.r [.M 14 6,.o 15 (.un .not (.t 14)),.M 16 15,.g 17 (.m 5) 16 false,.g 18 (.bin .neq (.t 17) (.c (.str []))) 16 false,.Q 19 16 18] (.i 19 (.v [.o 20 (.mkst zG []),.n (.stn 2 0 4 (.t 20) zT),.I 3 2]))) (.seq (.r [.L 21 4 0 4,.c 22 54 [.t 21],.M 7 22] (.r [.M 23 7,.C 24 .neq 23 0] (.i 24 (.v [.o 25 (.mkst zG []),.M 26 7,.n (.stn 2 0 4 (.t 25) zT),.M 3 26])))) (.v [.L 27 4 0 4,.S 2 0 4 27,.I 3 0]))))
def f153:Qi:=⟨1,28,[.cell 2 4 true,.tmp 3],f153C,false⟩
def f154l0:AC:= .seq (.r [.M 63 0,.o 64 (.lens (.t 63)),.C 65 .gtr 64 0,.M 66 65,.g 67 (.m 0) 66 true,.g 68 (.idx (.t 67) (.i 0)) 66 true,.g 69 (.bin .neq (.t 68) (.c (.int .u8 41))) 66 true,.P 70 66 69] (.x 70 0)) (.block 1 (.seq (.r [.F 71 7 3,.l 72 7 3 1,.N 73 72,.C 74 .gtr 73 0] (.i 74 (.seq (.r [.M 75 0,.o 76 (.lens (.t 75)),.C 77 .lss 76 2,.M 78 77,.g 79 (.m 0) 78 false,.g 80 (.slcs (.t 79) none (some (.i 2))) 78 false,.g 81 (.bin .neq (.t 80) (.c (.str [44,32]))) 78 false,.Q 82 78 81] (.i 82 (.v [.L 83 7 0 4,.M 84 0,.S 4 0 4 83,.M 5 84,.f 6 false]))) (.q [.M 85 0,.o 86 (.slcs (.t 85) (some (.i 2)) none),.M 0 86])))) (.r [.M 88 0,.M 89 1,.C 90 .sub 89 1,.c 91 154 [.t 88,.t 90],.M 87 91,.E 92 87 0,.E 93 87 1,.E 94 87 2,.T 8,.S 8 0 4 92,.M 9 93,.M 10 94] (.seq (.r [.M 95 10,.o 96 (.un .not (.t 95))] (.i 96 (.v [.L 97 7 0 4,.M 98 0,.S 4 0 4 97,.M 5 98,.f 6 false]))) (.r [.F 99 7 3,.o 100 (.ldfm 7 3),.L 101 8 0 4,.o 102 (.mksl 4 [.t 101]),.A 103 56 4 100 102,.F 104 7 3,.n (.stfm 7 3 103)] (.q [.M 105 9,.M 0 105]))))))
def f154r0:AC:= .seq (.r [.M 106 0,.o 107 (.lens (.t 106)),.C 108 .eql 107 0] (.i 108 (.v [.L 109 7 0 4,.M 110 0,.S 4 0 4 109,.M 5 110,.f 6 false]))) (.seq (.z [.L 111 7 0 4,.M 112 0,.o 113 (.slcs (.t 112) (some (.i 1)) none),.S 4 0 4 111,.M 5 113,.f 6 true]) (.ret))
def f154C:AC:= .r [.T 4,.o 5 (.mov (.c (.str []))),.f 6 false] (.r [.o 11 (.mkst zG [(0,1,.i 2)]),.T 7,.n (.stn 7 0 4 (.t 11) zT)] (.seq (.r [.M 12 0,.o 13 (.lens (.t 12)),.C 14 .gtr 13 0,.M 15 14,.g 16 (.m 0) 15 true,.g 17 (.idx (.t 16) (.i 0)) 15 true,.g 18 (.bin .eql (.t 17) (.c (.int .u8 63))) 15 true,.P 19 15 18] (.i 19 (.r [.F 20 7 0,.n (.stf 7 0 1 (.i 1))] (.q [.M 21 0,.o 22 (.slcs (.t 21) (some (.i 1)) none),.M 0 22])))) (.r [.M 23 0,.c 24 155 [.t 23],.F 25 7 1,.S 7 1 1 24] (.seq (.r [.F 26 7 1,.l 27 7 1 1,.c 28 57 [.t 27],.o 29 (.un .not (.t 28)),.M 30 29,.g 31 (.m 1) 30 false,.g 32 (.bin .eql (.t 31) (.i 0)) 30 false,.Q 33 30 32] (.i 33 (.v [.L 34 7 0 4,.M 35 0,.S 4 0 4 34,.M 5 35,.f 6 false]))) (.r [.M 36 0,.F 37 7 1,.l 38 7 1 1,.o 39 (.lens (.t 38)),.o 40 (.slcs (.t 36) (some (.t 39)) none),.M 0 40] (.seq (.r [.F 41 7 0,.l 42 7 0 1,.C 43 .eql 42 1,.M 44 43,.g 45 (.m 0) 44 false,.g 46 (.lens (.t 45)) 44 false,.g 47 (.bin .eql (.t 46) (.i 0)) 44 false,.Q 48 44 47,.M 49 48,.g 50 (.m 0) 49 false,.g 51 (.idx (.t 50) (.i 0)) 49 false,.g 52 (.bin .neq (.t 51) (.c (.int .u8 40))) 49 false,.Q 53 49 52] (.i 53 (.v [.L 54 7 0 4,.M 55 0,.c 56 156 [.t 54,.t 55],.E 57 56 0,.E 58 56 1,.E 59 56 2,.S 4 0 4 57,.M 5 58,.M 6 59]))) (.r [.F 60 7 0,.n (.stf 7 0 1 (.i 3))] (.r [.M 61 0,.o 62 (.slcs (.t 61) (some (.i 1)) none),.M 0 62] (.seq (.block 0 (.loop (f154l0))) (f154r0))))))))))
def f154:Qi:=⟨2,114,[.cell 4 4 true,.tmp 5,.tmp 6],f154C,false⟩
def f155l0:AC:= .seq (.r [.M 4 3,.M 5 0,.o 6 (.lens (.t 5)),.B 7 .lss 4 6,.M 8 7,.g 9 (.m 0) 8 true,.g 10 (.m 3) 8 true,.g 11 (.idx (.t 9) (.t 10)) 8 true,.g 12 (.call 58 [.t 11]) 8 true,.g 13 (.m 12) 8 true,.g 14 (.m 0) 13 false,.g 15 (.m 3) 13 false,.g 16 (.idx (.t 14) (.t 15)) 13 false,.g 17 (.call 59 [.t 16]) 13 false,.g 18 (.pick (.t 13) (.c (.bool true)) (.t 17)) 8 true,.g 19 (.m 18) 8 true,.g 20 (.m 0) 19 false,.g 21 (.m 3) 19 false,.g 22 (.idx (.t 20) (.t 21)) 19 false,.g 23 (.bin .eql (.t 22) (.c (.int .u8 95))) 19 false,.g 24 (.pick (.t 19) (.c (.bool true)) (.t 23)) 8 true,.g 25 (.m 24) 8 true,.g 26 (.m 0) 25 false,.g 27 (.m 3) 25 false,.g 28 (.idx (.t 26) (.t 27)) 25 false,.g 29 (.bin .eql (.t 28) (.c (.int .u8 35))) 25 false,.g 30 (.pick (.t 25) (.c (.bool true)) (.t 29)) 8 true,.P 31 8 30] (.x 31 0)) (.block 1 (.q [.M 32 3,.C 33 .add 32 1,.M 3 33]))
def f155r0:AC:= .v [.M 34 0,.M 35 3,.o 36 (.slcs (.t 34) none (some (.t 35))),.M 2 36]
def f155C:AC:= .r [.o 2 (.mov (.c (.str [])))] (.r [.I 3 0] (.seq (.block 0 (.loop (f155l0))) (f155r0)))
def f155:Qi:=⟨1,37,[.tmp 2],f155C,false⟩
def f156l0:AC:= .seq (.r [.M 25 8,.C 26 .leq 25 5] (.x 26 0)) (.seq (.block 1 (.r [.M 29 7,.M 30 8,.c 31 63 [.t 30],.B 32 .eql 29 31,.M 33 32,.g 34 (.m 8) 33 true,.g 35 (.bin .neq (.t 34) (.i 0)) 33 true,.g 36 (.m 35) 33 true,.g 37 (.fad 2 0) 36 false,.g 38 (.ldf 2 0 1 false) 36 false,.g 39 (.bin .eql (.t 38) (.i 2)) 36 false,.g 40 (.pick (.t 36) (.c (.bool true)) (.t 39)) 33 true,.P 41 33 40] (.i 41 (.r [.M 42 8,.F 43 2 2,.S 2 2 1 42] (.seq (.z [.L 44 2 0 4,.M 45 1,.M 46 7,.o 47 (.lens (.t 46)),.o 48 (.bin .add (.i 1) (.t 47)),.o 49 (.slcs (.t 45) (some (.t 48)) none),.S 4 0 4 44,.M 5 49,.f 6 true]) (.ret)))))) (.q [.M 27 8,.C 28 .add 27 1,.M 8 28]))
def f156r0:AC:= .v [.L 50 2 0 4,.M 51 1,.S 4 0 4 50,.M 5 51,.f 6 false]
def f156C:AC:= .r [.b 2 0,.T 4,.o 5 (.mov (.c (.str []))),.f 6 false] (.seq (.r [.M 9 1,.o 10 (.lens (.t 9)),.C 11 .eql 10 0,.M 12 11,.g 13 (.m 1) 12 false,.g 14 (.idx (.t 13) (.i 0)) 12 false,.g 15 (.bin .neq (.t 14) (.c (.int .u8 58))) 12 false,.Q 16 12 15] (.i 16 (.seq (.z [.L 17 2 0 4,.M 18 1,.F 19 2 0,.l 20 2 0 1,.C 21 .eql 20 1,.S 4 0 4 17,.M 5 18,.M 6 21]) (.ret)))) (.r [.M 22 1,.o 23 (.slcs (.t 22) (some (.i 1)) none),.c 24 155 [.t 23],.M 7 24] (.seq (.r [.I 8 0] (.block 0 (.loop (f156l0)))) (f156r0))))
def f156:Qi:=⟨2,52,[.cell 4 4 true,.tmp 5,.tmp 6],f156C,false⟩
def f159C:AC:= .r [.b 1 0,.f 2 false] (.seq (.r [.F 5 1 0,.l 6 1 0 1,.C 7 .eql 6 3] (.i 7 (.v [.L 8 1 0 4,.o 9 (.mksl 1 [.c (.str [122,101,114,111]),.c (.str [111,110,101])]),.c 10 160 [.t 8,.t 9],.M 11 10,.g 12 (.fad 1 3) 11 true,.g 13 (.ldf 1 3 1 false) 11 true,.g 14 (.lenl (.t 13)) 11 true,.g 15 (.bin .eql (.t 14) (.i 0)) 11 true,.P 16 11 15,.M 2 16]))) (.seq (.r [.F 17 1 0,.l 18 1 0 1,.C 19 .neq 18 2] (.i 19 (.v [.f 2 false]))) (.r [.F 21 1 1,.l 22 1 1 1,.c 23 73 [.t 22,.c (.str [101,35])],.M 20 23,.E 24 20 0,.E 25 20 1,.M 3 24,.M 4 25] (.seq (.r [.F 26 1 2,.l 27 1 2 1] (.block 0 (.seq (.r [.C 29 .eql 27 1,.M 28 29] (.cond (.t 28) (.skip) (.q [.C 30 .eql 27 5,.M 28 30]))) (.cond (.t 28) (.v [.f 2 true]) (.r [.C 32 .eql 27 4,.M 31 32] (.cond (.t 31) (.v [.F 33 1 1,.l 34 1 1 1,.o 35 (.bin .eql (.t 34) (.c (.str [103]))),.M 36 35,.g 37 (.m 4) 36 false,.g 38 (.m 37) 36 false,.g 39 (.m 3) 38 true,.g 40 (.call 163 [.t 39]) 38 true,.g 41 (.pick (.t 38) (.t 40) (.c (.bool false))) 36 false,.Q 42 36 41,.M 2 42]) (.seq (.r [.C 44 .eql 27 0,.M 43 44] (.cond (.t 43) (.skip) (.r [.C 45 .eql 27 2,.M 43 45] (.cond (.t 43) (.skip) (.q [.C 46 .eql 27 3,.M 43 46]))))) (.i 43 (.v [.M 47 4,.M 48 47,.g 49 (.m 3) 48 true,.g 50 (.call 163 [.t 49]) 48 true,.P 51 48 50,.M 2 51]))))))))) (.v [.f 2 false])))))
def f159:Qi:=⟨1,52,[.tmp 2],f159C,false⟩
@[simp] theorem f159B:f159.body=f159C∧f159.res=[.tmp 2]∧f159.keep=false:=⟨rfl,rfl,rfl⟩
def f160C:AC:= .r [.b 2 0,.f 4 false] (.v [.F 5 2 0,.l 6 2 0 1,.C 7 .eql 6 3,.M 8 7,.g 9 (.m 1) 8 true,.g 10 (.fad 2 1) 8 true,.g 11 (.ldf 2 1 1 false) 8 true,.g 12 (.call 161 [.t 9,.t 11]) 8 true,.P 13 8 12,.M 4 13])
def f160:Qi:=⟨2,14,[.tmp 4],f160C,false⟩
@[simp] theorem f160B:f160.body=f160C∧f160.res=[.tmp 4]∧f160.keep=false:=⟨rfl,rfl,rfl⟩
def f161C:AC:= .r [.f 4 false] (.v [.M 5 0,.M 6 1,.c 7 162 [.t 5,.t 6],.C 8 .geq 7 0,.M 4 8])
def f161:Qi:=⟨2,9,[.tmp 4],f161C,false⟩
@[simp] theorem f161B:f161.body=f161C∧f161.res=[.tmp 4]∧f161.keep=false:=⟨rfl,rfl,rfl⟩
def f162l0:AC:= .r [.B 9 .lss 8 7] (.seq (.x 9 0) (.seq (.block 1 (.r [.M 10 8,.M 5 10] (.r [.M 11 1,.M 12 0,.M 13 5,.X 14 1 12 13,.DF 15 14 1,.B 16 .eql 11 15] (.i 16 (.v [.M 17 5,.M 4 17]))))) (.q [.C 18 .add 8 1,.M 8 18])))
def f162r0:AC:= .v [.I 4 (-1)]
def f162C:AC:= .r [.I 4 0] (.seq (.r [.M 6 0,.N 7 6,.I 8 0] (.block 0 (.loop (f162l0)))) (f162r0))
def f162:Qi:=⟨2,19,[.tmp 4],f162C,false⟩
@[simp] theorem f162B:f162.body=f162C∧f162.res=[.tmp 4]∧f162.keep=false:=⟨rfl,rfl,rfl⟩
def f163C:AC:= .r [.f 2 false] (.v [.M 3 0,.o 4 (.bin .neq (.t 3) (.c (.str []))),.M 5 4,.g 6 (.m 0) 5 true,.g 7 (.call 164 [.t 6,.c (.str [48,49,50,51,52,53,54,55,56,57])]) 5 true,.g 8 (.bin .eql (.t 7) (.c (.str []))) 5 true,.P 9 5 8,.M 2 9])
def f163:Qi:=⟨1,10,[.tmp 2],f163C,false⟩
@[simp] theorem f163B:f163.body=f163C∧f163.res=[.tmp 2]∧f163.keep=false:=⟨rfl,rfl,rfl⟩
def f165C:AC:= .r [.b 1 0,.Z 2 4] (.v [.L 3 1 0 4,.c 4 166 [.t 3,.i 1],.o 2 (.mvs 4)])
def f165:Qi:=⟨1,5,[.tmp 2],f165C,false⟩
def f166C:AC:= .r [.b 2 0,.o 3 (.gbox (.t 1)),.Z 4 4] (.r [.o 5 (.galloc [.gs 0 0 0 0])] (.r [.L 6 2 0 4,.o 7 (.mkfn 167 [.t 3,.t 5]),.c 8 168 [.t 6,.t 7]] (.v [.o 9 (.ldg 5 1 false),.c 10 169 [.t 9],.o 4 (.mvs 10)])))
def f166:Qi:=⟨2,11,[.tmp 4],f166C,false⟩
def f167C:AC:= .r [.b 3 0] (.r [.F 4 3 0,.l 5 3 0 1,.o 6 (.ldg 1 1 false),.B 7 .eql 5 6] (.i 7 (.z [.o 8 (.ldg 2 1 false),.L 9 3 0 4,.N 10 8,.o 11 (.mksl 4 [.c (.agg zT)]),.o 12 (.appM 56 4 (.t 8) (.t 11)),.X 13 4 12 10,.n (.stq 13 4 (.t 9) 2),.n (.st 2 1 (.t 12))])))
def f167:Qi:=⟨3,14,[],f167C,true⟩
def f168l0:AC:= .r [.B 13 .lss 12 11] (.seq (.x 13 0) (.seq (.block 1 (.r [.X 14 4 10 12,.DT 15 14 4,.T 5,.S 5 0 4 15] (.q [.L 16 5 0 4,.M 17 1,.c 18 168 [.t 16,.t 17]]))) (.q [.C 19 .add 12 1,.M 12 19])))
def f168C:AC:= .r [.b 2 0] (.r [.M 6 1,.L 7 2 0 4,.o 8 (.callv (.t 6) [.t 7])] (.r [.F 9 2 3,.l 10 2 3 1,.N 11 10,.I 12 0] (.block 0 (.loop (f168l0)))))
def f168:Qi:=⟨2,20,[],f168C,true⟩
@[simp] theorem f168B:f168.body=f168C∧f168.res=[]∧f168.keep=true:=⟨rfl,rfl,rfl⟩
def f169l0:AC:= .r [.B 11 .lss 10 9] (.seq (.x 11 0) (.seq (.block 1 (.r [.M 12 10,.M 3 12] (.q [.M 13 0,.M 14 3,.M 15 0,.M 16 3,.X 17 4 15 16,.o 18 (.ldg 17 4 true),.c 19 48 [.t 18],.X 20 4 13 14,.n (.st 20 4 (.t 19))]))) (.q [.C 21 .add 10 1,.M 10 21])))
def f169r0:AC:= .v [.M 22 0,.o 2 (.frz 22 4)]
def f169C:AC:= .r [.Z 2 4] (.r [.M 4 0,.c 5 170 [.t 4,.c (.fn 30 [])]] (.r [.M 6 0,.c 7 172 [.t 6,.c (.fn 171 [])],.M 0 7] (.seq (.r [.M 8 0,.N 9 8,.I 10 0] (.block 0 (.loop (f169l0)))) (f169r0))))
def f169:Qi:=⟨1,23,[.tmp 2],f169C,false⟩
@[simp] theorem f169B:f169.body=f169C∧f169.res=[.tmp 2]∧f169.keep=false:=⟨rfl,rfl,rfl⟩
def f171C:AC:= .r [.b 2 0,.b 3 1,.f 4 false] (.v [.L 5 2 0 4,.L 6 3 0 4,.c 7 30 [.t 5,.t 6],.C 8 .eql 7 0,.M 4 8])
def f171:Qi:=⟨2,9,[.tmp 4],f171C,false⟩
def f172l0:AC:= .seq (.r [.M 32 7,.M 33 6,.N 34 33,.B 35 .lss 32 34] (.x 35 2)) (.seq (.block 3 (.seq (.z [.M 38 1,.M 39 6,.M 40 7,.X 41 4 39 40,.o 42 (.ldg 41 4 true),.M 43 6,.M 44 7,.C 45 .sub 44 1,.X 46 4 43 45,.o 47 (.ldg 46 4 true),.o 48 (.callv (.t 38) [.t 42,.t 47]),.o 49 (.un .not (.t 48))]) (.i 49 (.r [.M 50 0,.M 51 5,.M 52 6,.M 53 7,.X 54 4 52 53,.o 55 (.ldg 54 4 true),.X 56 4 50 51,.n (.st 56 4 (.t 55))] (.q [.M 57 5,.C 58 .add 57 1,.M 5 58]))))) (.q [.M 36 7,.C 37 .add 36 1,.M 7 37]))
def f172r0:AC:= .r [.M 59 0,.M 60 5,.o 61 (.slcl 4 (.t 59) (some (.t 60)) none),.n (.clr 4 (.t 61))] (.v [.M 62 0,.M 63 5,.o 64 (.slcl 4 (.t 62) none (some (.t 63))),.M 4 64])
def f172r1:AC:= .q [.M 16 5,.C 17 .add 16 1,.M 5 17]
def f172l1:AC:= .seq (.r [.M 12 5,.M 13 0,.N 14 13,.B 15 .lss 12 14] (.x 15 0)) (.seq (.block 1 (.seq (.z [.M 18 1,.M 19 0,.M 20 5,.X 21 4 19 20,.o 22 (.ldg 21 4 true),.M 23 0,.M 24 5,.C 25 .sub 24 1,.X 26 4 23 25,.o 27 (.ldg 26 4 true),.o 28 (.callv (.t 18) [.t 22,.t 27])]) (.i 28 (.r [.M 29 0,.M 30 5,.o 31 (.slcl 4 (.t 29) (some (.t 30)) none),.M 6 31] (.seq (.r [.I 7 1] (.block 2 (.loop (f172l0)))) (f172r0)))))) (f172r1))
def f172r2:AC:= .v [.M 65 0,.M 4 65]
def f172C:AC:= .r [.Z 4 4] (.seq (.r [.M 8 0,.N 9 8,.C 10 .lss 9 2] (.i 10 (.v [.M 11 0,.M 4 11]))) (.seq (.r [.I 5 1] (.block 0 (.loop (f172l1)))) (f172r2)))
def f172:Qi:=⟨2,66,[.tmp 4],f172C,true⟩
@[simp] theorem f172B:f172.body=f172C∧f172.res=[.tmp 4]∧f172.keep=true:=⟨rfl,rfl,rfl⟩
def f173C:AC:= .r [.b 1 0,.f 2 false] (.r [.L 6 1 0 4,.c 7 174 [.t 6],.M 5 7,.E 8 5 0,.E 9 5 1,.T 3,.S 3 0 4 8,.M 4 9] (.v [.M 10 4,.C 11 .eql 10 0,.M 12 11,.g 13 (.ldf 3 0 4 true) 12 true,.g 14 (.ldf 1 0 4 true) 12 true,.g 15 (.call 177 [.t 13,.t 14]) 12 true,.P 16 12 15,.M 17 16,.g 18 (.ldf 1 0 4 true) 17 true,.g 19 (.call 207 [.t 18,.c (.fn 206 [])]) 17 true,.P 20 17 19,.M 2 20]))
def f173:Qi:=⟨1,21,[.tmp 2],f173C,false⟩
@[simp] theorem f173B:f173.body=f173C∧f173.res=[.tmp 2]∧f173.keep=false:=⟨rfl,rfl,rfl⟩
def f174C:AC:= .r [.b 1 0,.T 2,.I 3 0] (.seq (.r [.L 7 1 0 4,.c 8 41 [.t 7],.M 4 8] (.r [.M 9 4,.C 10 .neq 9 0] (.i 10 (.v [.o 11 (.mkst zG []),.M 12 4,.n (.stn 2 0 4 (.t 11) zT),.M 3 12])))) (.r [.L 14 1 0 4,.c 15 175 [.t 14],.M 13 15,.E 16 13 0,.E 17 13 1,.T 5,.S 5 0 4 16,.M 6 17] (.seq (.r [.M 18 6,.C 19 .eql 18 0] (.i 19 (.q [.L 20 5 0 4,.c 21 6 [.t 20],.M 6 21]))) (.seq (.r [.M 22 6,.C 23 .neq 22 0] (.i 23 (.v [.o 24 (.mkst zG []),.M 25 6,.n (.stn 2 0 4 (.t 24) zT),.M 3 25]))) (.v [.L 26 5 0 4,.S 2 0 4 26,.I 3 0])))))
def f174:Qi:=⟨1,27,[.cell 2 4 true,.tmp 3],f174C,false⟩
@[simp] theorem f174B:f174.body=f174C∧f174.res=[.cell 2 4 true,.tmp 3]∧f174.keep=false:=⟨rfl,rfl,rfl⟩
def f175l0:AC:= .r [.B 22 .lss 21 20] (.seq (.x 22 0) (.seq (.block 1 (.r [.X 23 4 19 21,.DT 24 23 4,.T 6,.S 6 0 4 24] (.r [.L 26 6 0 4,.c 27 175 [.t 26],.M 25 27,.E 28 25 0,.E 29 25 1,.T 7,.S 7 0 4 28,.M 8 29] (.seq (.r [.M 30 8,.C 31 .neq 30 0] (.i 31 (.v [.o 32 (.mkst zG []),.M 33 8,.n (.stn 2 0 4 (.t 32) zT),.M 3 33]))) (.q [.F 34 4 3,.o 35 (.ldfm 4 3),.L 36 7 0 4,.o 37 (.mksl 4 [.t 36]),.A 38 56 4 35 37,.F 39 4 3,.n (.stfm 4 3 38)]))))) (.q [.C 40 .add 21 1,.M 21 40])))
def f175r0:AC:= .seq (.r [.F 41 1 1,.l 42 1 1 1] (.block 2 (.seq (.r [.o 44 (.bin .eql (.t 42) (.c (.str [102,115,116]))),.M 43 44] (.cond (.t 43) (.skip) (.r [.o 45 (.bin .eql (.t 42) (.c (.str [115,110,100]))),.M 43 45] (.cond (.t 43) (.skip) (.r [.o 46 (.bin .eql (.t 42) (.c (.str [100,101,99]))),.M 43 46] (.cond (.t 43) (.skip) (.r [.o 47 (.bin .eql (.t 42) (.c (.str [97,100,101,99]))),.M 43 47] (.cond (.t 43) (.skip) (.r [.o 48 (.bin .eql (.t 42) (.c (.str [111,112,101,110]))),.M 43 48] (.cond (.t 43) (.skip) (.q [.o 49 (.bin .eql (.t 42) (.c (.str [114,101,97,100]))),.M 43 49]))))))))))) (.cond (.t 43) (.v [.L 50 4 0 4,.c 51 176 [.t 50],.S 2 0 4 51,.I 3 0]) (.r [.o 53 (.bin .eql (.t 42) (.c (.str [120,111,114]))),.M 52 53] (.cond (.t 52) (.v [.F 54 4 3,.l 55 4 3 1,.c 56 178 [.t 55],.E 57 56 0,.E 58 56 1,.S 2 0 4 57,.M 3 58]) (.seq (.r [.o 60 (.bin .eql (.t 42) (.c (.str [109,117,108]))),.M 59 60] (.cond (.t 59) (.skip) (.r [.o 61 (.bin .eql (.t 42) (.c (.str [105,110,118]))),.M 59 61] (.cond (.t 59) (.skip) (.q [.o 62 (.bin .eql (.t 42) (.c (.str [111,110,101]))),.M 59 62]))))) (.cond (.t 59) (.r [.L 64 4 0 4,.c 65 186 [.t 64],.M 63 65,.E 66 63 0,.E 67 63 1,.o 9 (.mvs 66),.M 10 67] (.seq (.r [.M 68 10,.C 69 .neq 68 0] (.i 69 (.v [.o 70 (.mkst zG []),.M 71 10,.n (.stn 2 0 4 (.t 70) zT),.M 3 71]))) (.v [.M 72 9,.c 73 196 [.t 72],.E 74 73 0,.E 75 73 1,.S 2 0 4 74,.M 3 75]))) (.r [.o 77 (.bin .eql (.t 42) (.c (.str [101,120,112]))),.M 76 77] (.i 76 (.seq (.z [.F 78 4 3,.l 79 4 3 1,.o 80 (.idxa 4 (.t 79) (.i 0)),.DT 81 80 4,.F 82 4 3,.l 83 4 3 1,.o 84 (.idxa 4 (.t 83) (.i 1)),.DT 85 84 4,.c 86 199 [.t 81,.t 85],.E 87 86 0,.E 88 86 1,.S 2 0 4 87,.M 3 88]) (.ret)))))))))))) (.v [.L 89 4 0 4,.S 2 0 4 89,.I 3 0])
def f175C:AC:= .r [.b 1 0,.T 2,.I 3 0] (.seq (.r [.F 11 1 0,.l 12 1 0 1,.C 13 .neq 12 3] (.i 13 (.v [.L 14 1 0 4,.S 2 0 4 14,.I 3 0]))) (.r [.F 15 1 1,.l 16 1 1 1,.o 17 (.mkst zG [(0,1,.i 3),(1,1,.t 16)]),.T 4,.n (.stn 4 0 4 (.t 17) zT)] (.seq (.r [.F 18 1 3,.l 19 1 3 1,.N 20 19,.I 21 0] (.block 0 (.loop (f175l0)))) (f175r0))))
def f175:Qi:=⟨1,90,[.cell 2 4 true,.tmp 3],f175C,false⟩
@[simp] theorem f175B:f175.body=f175C∧f175.res=[.cell 2 4 true,.tmp 3]∧f175.keep=false:=⟨rfl,rfl,rfl⟩
def f176C:AC:= .r [.b 1 0,.T 2] (.r [.F 7 1 3,.l 8 1 3 1,.o 9 (.idxa 4 (.t 8) (.i 0)),.DT 10 9 4,.T 3,.S 3 0 4 10] (.r [.T 4] (.seq (.r [.F 11 1 3,.l 12 1 3 1,.N 13 12,.C 14 .gtr 13 1] (.i 14 (.q [.F 15 1 3,.l 16 1 3 1,.o 17 (.idxa 4 (.t 16) (.i 1)),.DT 18 17 4,.S 4 0 4 18]))) (.r [.f 5 false] (.r [.I 6 0] (.seq (.r [.F 19 1 1,.l 20 1 1 1] (.block 0 (.r [.o 22 (.bin .eql (.t 20) (.c (.str [102,115,116]))),.M 21 22] (.cond (.t 21) (.q [.L 23 3 0 4,.c 24 71 [.t 23,.c (.str [112,97,105,114])],.M 5 24]) (.r [.o 26 (.bin .eql (.t 20) (.c (.str [115,110,100]))),.M 25 26] (.cond (.t 25) (.q [.L 27 3 0 4,.c 28 71 [.t 27,.c (.str [112,97,105,114])],.M 5 28,.I 6 1]) (.r [.o 30 (.bin .eql (.t 20) (.c (.str [100,101,99]))),.M 29 30] (.cond (.t 29) (.z [.L 31 3 0 4,.c 32 71 [.t 31,.c (.str [101,110,99])],.M 33 32,.g 34 (.fad 3 3) 33 true,.g 35 (.ldf 3 3 1 false) 33 true,.g 36 (.idxa 4 (.t 35) (.i 1)) 33 true,.g 37 (.ld 36 4 true) 33 true,.g 38 (.ldf 4 0 4 true) 33 true,.g 39 (.call 177 [.t 37,.t 38]) 33 true,.P 40 33 39,.M 5 40]) (.r [.o 42 (.bin .eql (.t 20) (.c (.str [97,100,101,99]))),.M 41 42] (.cond (.t 41) (.z [.L 43 3 0 4,.c 44 71 [.t 43,.c (.str [97,101,110,99])],.M 45 44,.g 46 (.fad 3 3) 45 true,.g 47 (.ldf 3 3 1 false) 45 true,.g 48 (.idxa 4 (.t 47) (.i 1)) 45 true,.g 49 (.ld 48 4 true) 45 true,.g 50 (.call 71 [.t 49,.c (.str [112,107])]) 45 true,.P 51 45 50,.M 52 51,.g 53 (.fad 3 3) 52 true,.g 54 (.ldf 3 3 1 false) 52 true,.g 55 (.idxa 4 (.t 54) (.i 1)) 52 true,.g 56 (.fadr 55 3) 52 true,.g 57 (.ld 56 1 false) 52 true,.g 58 (.idxa 4 (.t 57) (.i 0)) 52 true,.g 59 (.ld 58 4 true) 52 true,.g 60 (.ldf 4 0 4 true) 52 true,.g 61 (.call 177 [.t 59,.t 60]) 52 true,.P 62 52 61,.M 5 62]) (.r [.o 64 (.bin .eql (.t 20) (.c (.str [111,112,101,110]))),.M 63 64] (.cond (.t 63) (.z [.L 65 3 0 4,.c 66 71 [.t 65,.c (.str [115,105,103,110])],.M 67 66,.g 68 (.ldf 4 0 4 true) 67 true,.g 69 (.call 71 [.t 68,.c (.str [112,107])]) 67 true,.P 70 67 69,.M 71 70,.g 72 (.fad 3 3) 71 true,.g 73 (.ldf 3 3 1 false) 71 true,.g 74 (.idxa 4 (.t 73) (.i 1)) 71 true,.g 75 (.ld 74 4 true) 71 true,.g 76 (.fad 4 3) 71 true,.g 77 (.ldf 4 3 1 false) 71 true,.g 78 (.idxa 4 (.t 77) (.i 0)) 71 true,.g 79 (.ld 78 4 true) 71 true,.g 80 (.call 177 [.t 75,.t 79]) 71 true,.P 81 71 80,.M 5 81]) (.r [.o 83 (.bin .eql (.t 20) (.c (.str [114,101,97,100]))),.M 82 83] (.i 82 (.q [.L 84 3 0 4,.c 85 71 [.t 84,.c (.str [115,105,103,110])],.M 5 85]))))))))))))))) (.seq (.r [.M 86 5] (.i 86 (.v [.F 87 3 3,.l 88 3 3 1,.M 89 6,.X 90 4 88 89,.DT 91 90 4,.S 2 0 4 91]))) (.v [.L 92 1 0 4,.S 2 0 4 92]))))))))
def f176:Qi:=⟨1,93,[.cell 2 4 true],f176C,false⟩
@[simp] theorem f176B:f176.body=f176C∧f176.res=[.cell 2 4 true]∧f176.keep=false:=⟨rfl,rfl,rfl⟩
def f177C:AC:= .r [.b 2 0,.b 3 1,.f 4 false] (.v [.L 5 2 0 4,.L 6 3 0 4,.c 7 30 [.t 5,.t 6],.C 8 .eql 7 0,.M 4 8])
def f177:Qi:=⟨2,9,[.tmp 4],f177C,false⟩
@[simp] theorem f177B:f177.body=f177C∧f177.res=[.tmp 4]∧f177.keep=false:=⟨rfl,rfl,rfl⟩
def f178l0:AC:= .r [.B 18 .lss 17 16] (.seq (.x 18 0) (.seq (.block 1 (.r [.X 19 4 15 17,.DT 20 19 4,.T 7,.S 7 0 4 20] (.q [.M 21 5,.L 22 7 0 4,.c 23 182 [.t 22],.c 24 183 [.t 21,.t 23],.o 5 (.mvs 24)]))) (.q [.C 25 .add 17 1,.M 17 25])))
def f178r0:AC:= .r [.M 26 5,.c 27 184 [.t 26],.o 5 (.mvs 27)] (.r [.T 8] (.seq (.r [.M 28 5,.N 29 28] (.block 2 (.r [.C 33 .eql 29 0,.M 32 33] (.cond (.t 32) (.q [.o 34 (.mkst zG [(0,1,.i 3),(1,1,.c (.str [122,101,114,111]))]),.n (.stn 8 0 4 (.t 34) zT)]) (.r [.C 36 .eql 29 1,.M 35 36] (.cond (.t 35) (.q [.M 37 5,.o 38 (.idxa 4 (.t 37) (.i 0)),.DT 39 38 4,.S 8 0 4 39]) (.q [.M 30 5,.o 31 (.mkst zT [(0,1,.i 3),(1,1,.c (.str [120,111,114])),(3,1,.t 30)]),.S 8 0 4 31]))))))) (.seq (.r [.L 40 8 0 4,.c 41 6 [.t 40],.C 42 .neq 41 0] (.i 42 (.v [.o 43 (.mkst zG []),.n (.stn 2 0 4 (.t 43) zT),.I 3 3]))) (.v [.L 44 8 0 4,.S 2 0 4 44,.I 3 0]))))
def f178C:AC:= .r [.T 2,.I 3 0] (.seq (.r [.M 9 0,.c 10 179 [.t 9,.c (.sl true 4 [])],.M 4 10] (.r [.M 11 4,.C 12 .neq 11 0] (.i 12 (.v [.o 13 (.mkst zG []),.M 14 4,.n (.stn 2 0 4 (.t 13) zT),.M 3 14])))) (.r [.Z 5 4] (.seq (.r [.M 15 0,.N 16 15,.I 17 0] (.block 0 (.loop (f178l0)))) (f178r0))))
def f178:Qi:=⟨1,45,[.cell 2 4 true,.tmp 3],f178C,false⟩
@[simp] theorem f178B:f178.body=f178C∧f178.res=[.cell 2 4 true,.tmp 3]∧f178.keep=false:=⟨rfl,rfl,rfl⟩
def f179l0:AC:= .r [.B 17 .lss 16 15] (.seq (.x 17 0) (.seq (.block 1 (.r [.X 18 4 14 16,.DT 19 18 4,.T 6,.S 6 0 4 19] (.r [.L 20 6 0 4,.c 21 6 [.t 20],.M 7 21] (.r [.M 22 7,.C 23 .neq 22 0] (.i 23 (.v [.M 24 7,.M 4 24])))))) (.q [.C 25 .add 16 1,.M 16 25])))
def f179r0:AC:= .v [.I 4 0]
def f179C:AC:= .r [.I 4 0] (.seq (.r [.M 8 0,.N 9 8,.C 10 .gtr 9 200] (.i 10 (.v [.I 4 3]))) (.seq (.r [.M 11 0,.M 12 1,.o 13 (.mksl 1 [.t 11,.t 12]),.c 14 180 [.t 13],.N 15 14,.I 16 0] (.block 0 (.loop (f179l0)))) (f179r0)))
def f179:Qi:=⟨2,26,[.tmp 4],f179C,false⟩
@[simp] theorem f179B:f179.body=f179C∧f179.res=[.tmp 4]∧f179.keep=false:=⟨rfl,rfl,rfl⟩
def f180l0:AC:= .r [.B 12 .lss 11 10] (.seq (.x 12 0) (.seq (.block 1 (.r [.X 13 1 9 11,.DF 14 13 1,.o 5 (.mvs 14)] (.r [.M 15 3,.M 16 5,.N 17 16,.B 18 .add 15 17,.M 3 18] (.r [.M 19 3,.C 20 .lss 19 0] (.i 20 (.bad)))))) (.q [.C 22 .add 11 1,.M 11 22])))
def f180l1:AC:= .r [.B 28 .lss 27 26] (.seq (.x 28 2) (.seq (.block 3 (.r [.X 29 1 25 27,.DF 30 29 1,.o 8 (.mvs 30)] (.q [.o 31 (.mvs 6),.M 32 8,.A 33 56 4 31 32,.o 6 (.mvs 33)]))) (.q [.C 34 .add 27 1,.M 27 34])))
def f180r0:AC:= .v [.M 35 6,.o 2 (.mvs 35)]
def f180r1:AC:= .r [.M 23 3,.c 24 181 [.c (.gs 0 0 0 0),.t 23],.o 6 (.mvs 24)] (.seq (.r [.M 25 0,.N 26 25,.I 27 0] (.block 2 (.loop (f180l1)))) (f180r0))
def f180C:AC:= .r [.Z 2 4] (.r [.I 3 0] (.seq (.r [.M 9 0,.N 10 9,.I 11 0] (.block 0 (.loop (f180l0)))) (f180r1)))
def f180:Qi:=⟨1,36,[.tmp 2],f180C,false⟩
@[simp] theorem f180B:f180.body=f180C∧f180.res=[.tmp 2]∧f180.keep=false:=⟨rfl,rfl,rfl⟩
def f182l0:AC:= .r [.B 34 .lss 33 32] (.seq (.x 34 1) (.seq (.block 2 (.r [.X 35 4 31 33,.DT 36 35 4,.T 5,.S 5 0 4 36] (.q [.M 37 3,.L 38 5 0 4,.c 39 182 [.t 38],.c 40 183 [.t 37,.t 39],.o 3 (.mvs 40)]))) (.q [.C 41 .add 33 1,.M 33 41])))
def f182r0:AC:= .v [.M 42 3,.o 2 (.mvs 42)]
def f182r1:AC:= .v [.L 43 1 0 4,.o 44 (.mksl 4 [.t 43]),.o 2 (.mvs 44)]
def f182C:AC:= .r [.b 1 0,.Z 2 4] (.seq (.block 0 (.r [.F 7 1 0,.l 8 1 0 1,.C 9 .eql 8 3,.M 10 9,.g 11 (.fad 1 1) 10 true,.g 12 (.ldf 1 1 1 false) 10 true,.g 13 (.bin .eql (.t 12) (.c (.str [122,101,114,111]))) 10 true,.P 14 10 13,.M 15 14,.g 16 (.fad 1 3) 15 true,.g 17 (.ldf 1 3 1 false) 15 true,.g 18 (.lenl (.t 17)) 15 true,.g 19 (.bin .eql (.t 18) (.i 0)) 15 true,.P 20 15 19,.M 6 20] (.cond (.t 6) (.v [.Z 2 4]) (.r [.F 22 1 0,.l 23 1 0 1,.C 24 .eql 23 3,.M 25 24,.g 26 (.fad 1 1) 25 true,.g 27 (.ldf 1 1 1 false) 25 true,.g 28 (.bin .eql (.t 27) (.c (.str [120,111,114]))) 25 true,.P 29 25 28,.M 21 29] (.i 21 (.r [.Z 3 4] (.seq (.r [.F 30 1 3,.l 31 1 3 1,.N 32 31,.I 33 0] (.block 1 (.loop (f182l0)))) (f182r0)))))))) (f182r1))
def f182:Qi:=⟨1,45,[.tmp 2],f182C,false⟩
@[simp] theorem f182B:f182.body=f182C∧f182.res=[.tmp 2]∧f182.keep=false:=⟨rfl,rfl,rfl⟩
def f183l0:AC:= .seq (.r [.M 7 0,.N 8 7,.C 9 .gtr 8 0,.M 10 9,.g 11 (.m 1) 10 true,.g 12 (.lenl (.t 11)) 10 true,.g 13 (.bin .gtr (.t 12) (.i 0)) 10 true,.P 14 10 13] (.x 14 0)) (.block 1 (.seq (.z [.M 15 0,.o 16 (.idxa 4 (.t 15) (.i 0)),.DT 17 16 4,.M 18 1,.o 19 (.idxa 4 (.t 18) (.i 0)),.DT 20 19 4,.c 21 30 [.t 17,.t 20],.M 6 21]) (.block 2 (.r [.M 27 6,.C 28 .lss 27 0,.M 26 28] (.cond (.t 26) (.z [.o 29 (.mvs 5),.M 30 0,.o 31 (.idxa 4 (.t 30) (.i 0)),.DT 32 31 4,.o 33 (.mksl 4 [.t 32]),.A 34 56 4 29 33,.M 35 0,.o 36 (.slcl 4 (.t 35) (some (.i 1)) none),.o 5 (.mvs 34),.o 0 (.mvs 36)]) (.r [.M 38 6,.C 39 .gtr 38 0,.M 37 39] (.cond (.t 37) (.z [.o 40 (.mvs 5),.M 41 1,.o 42 (.idxa 4 (.t 41) (.i 0)),.DT 43 42 4,.o 44 (.mksl 4 [.t 43]),.A 45 56 4 40 44,.M 46 1,.o 47 (.slcl 4 (.t 46) (some (.i 1)) none),.o 5 (.mvs 45),.o 1 (.mvs 47)]) (.z [.M 22 0,.o 23 (.slcl 4 (.t 22) (some (.i 1)) none),.M 24 1,.o 25 (.slcl 4 (.t 24) (some (.i 1)) none),.o 0 (.mvs 23),.o 1 (.mvs 25)]))))))))
def f183r0:AC:= .v [.o 48 (.mvs 5),.M 49 0,.A 50 56 4 48 49,.M 51 1,.A 52 56 4 50 51,.o 4 (.mvs 52)]
def f183C:AC:= .r [.Z 4 4] (.r [.Z 5 4] (.seq (.block 0 (.loop (f183l0))) (f183r0)))
def f183:Qi:=⟨2,53,[.tmp 4],f183C,false⟩
@[simp] theorem f183B:f183.body=f183C∧f183.res=[.tmp 4]∧f183.keep=false:=⟨rfl,rfl,rfl⟩
def f184l0:AC:= .r [.B 12 .lss 11 10] (.seq (.x 12 0) (.seq (.block 1 (.r [.M 13 11,.X 14 4 9 11,.DT 15 14 4,.T 5,.M 4 13,.S 5 0 4 15] (.r [.M 17 3,.M 18 4,.L 19 5 0 4,.L 20 5 0 4,.c 21 185 [.t 19,.c (.sl true 1 []),.t 20],.M 16 21,.E 22 16 0,.E 23 16 1,.X 24 4 17 18,.n (.st 24 4 (.t 22))] (.r [.M 25 3,.M 26 4,.F 27 5 3,.l 28 5 3 1,.c 29 184 [.t 28],.X 30 4 25 26,.o 31 (.fadr 30 3),.n (.stm 31 29)] (.r [.F 32 5 3,.l 33 5 3 1,.N 34 33,.C 35 .eql 34 0] (.i 35 (.q [.M 36 3,.M 37 4,.X 38 4 36 37,.o 39 (.fadr 38 3),.n (.st 39 1 (.c (.sl true 4 [])))]))))))) (.q [.C 40 .add 11 1,.M 11 40])))
def f184r0:AC:= .v [.M 41 3,.o 2 (.frz 41 4)]
def f184C:AC:= .r [.Z 2 4] (.r [.M 6 0,.N 7 6,.o 8 (.mkg 56 4 zT (.t 7)),.M 3 8] (.seq (.r [.M 9 0,.N 10 9,.I 11 0] (.block 0 (.loop (f184l0)))) (f184r0)))
def f184:Qi:=⟨1,42,[.tmp 2],f184C,false⟩
@[simp] theorem f184B:f184.body=f184C∧f184.res=[.tmp 2]∧f184.keep=false:=⟨rfl,rfl,rfl⟩
def f185l0:AC:= .r [.B 17 .lss 16 15] (.seq (.x 17 0) (.seq (.block 1 (.r [.X 18 1 14 16,.DF 19 18 1,.M 11 19] (.seq (.r [.M 20 11,.C 21 .lss 20 0,.M 22 21,.g 23 (.m 11) 22 false,.g 24 (.m 9) 22 false,.g 25 (.nilck (.t 24)) 22 false,.g 26 (.fadr 25 3) 22 false,.g 27 (.ldg 26 1 false) 22 false,.g 28 (.lenl (.t 27)) 22 false,.g 29 (.bin .geq (.t 23) (.t 28)) 22 false,.Q 30 22 29] (.i 30 (.v [.o 31 (.mkst zG []),.n (.stn 6 0 4 (.t 31) zT),.I 7 7]))) (.q [.M 32 9,.o 33 (.nilck (.t 32)),.o 34 (.fadr 33 3),.o 35 (.ldg 34 1 false),.M 36 11,.X 37 4 35 36,.M 9 37])))) (.q [.C 38 .add 16 1,.M 16 38])))
def f185r0:AC:= .r [.M 39 9,.L 40 5 0 4,.c 41 48 [.t 40],.o 42 (.nilck (.t 39)),.n (.st 42 4 (.t 41))] (.v [.o 43 (.ldg 8 4 true),.S 6 0 4 43,.I 7 0])
def f185C:AC:= .r [.b 3 0,.b 5 2,.T 6,.I 7 0] (.r [.L 12 3 0 4,.c 13 48 [.t 12],.o 8 (.galloc zT),.n (.st 8 4 (.t 13))] (.r [.M 9 8] (.seq (.r [.M 14 1,.N 15 14,.I 16 0] (.block 0 (.loop (f185l0)))) (f185r0))))
def f185:Qi:=⟨3,44,[.cell 6 4 true,.tmp 7],f185C,false⟩
@[simp] theorem f185B:f185.body=f185C∧f185.res=[.cell 6 4 true,.tmp 7]∧f185.keep=false:=⟨rfl,rfl,rfl⟩
def f186C:AC:= .r [.b 1 0,.Z 2 5,.I 3 0] (.seq (.r [.L 7 1 0 4,.c 8 6 [.t 7],.M 4 8] (.r [.M 9 4,.C 10 .neq 9 0] (.i 10 (.v [.M 11 4,.Z 2 5,.M 3 11])))) (.r [.L 13 1 0 4,.c 14 187 [.c (.gs 0 0 0 0),.t 13,.i 1],.M 12 14,.E 15 12 0,.E 16 12 1,.M 5 15,.M 6 16] (.seq (.block 0 (.r [.M 18 6,.o 19 (.un .not (.t 18)),.M 17 19] (.cond (.t 17) (.v [.Z 2 5,.I 3 6]) (.r [.M 21 5,.N 22 21,.C 23 .gtr 22 200,.M 20 23] (.i 20 (.v [.Z 2 5,.I 3 3])))))) (.v [.M 24 5,.o 2 (.frz 24 5),.I 3 0]))))
def f186:Qi:=⟨1,25,[.tmp 2,.tmp 3],f186C,false⟩
@[simp] theorem f186B:f186.body=f186C∧f186.res=[.tmp 2,.tmp 3]∧f186.keep=false:=⟨rfl,rfl,rfl⟩
def f187l0:AC:= .r [.B 55 .lss 54 53] (.seq (.x 55 1) (.seq (.block 2 (.r [.X 56 4 52 54,.DT 57 56 4,.T 11,.S 11 0 4 57] (.r [.M 59 0,.L 60 11 0 4,.M 61 2,.c 62 187 [.t 59,.t 60,.t 61],.M 58 62,.E 63 58 0,.E 64 58 1,.o 0 (.mvs 63),.M 9 64] (.r [.M 65 9,.o 66 (.un .not (.t 65))] (.i 66 (.v [.o 6 (.mov (.c (.gs 0 0 0 0))),.f 7 false])))))) (.q [.C 67 .add 54 1,.M 54 67])))
def f187r0:AC:= .v [.M 68 0,.M 6 68,.f 7 true]
def f187C:AC:= .r [.b 4 1,.o 6 (.mov (.c (.gs 0 0 0 0))),.f 7 false] (.seq (.r [.L 12 4 0 4,.c 13 188 [.t 12],.o 14 (.un .not (.t 13))] (.i 14 (.v [.M 15 0,.L 16 4 0 4,.M 17 2,.o 18 (.mkst [.int .i64 0,.str [],.int .i64 0,.sl true 4 [],.int .i64 0] [(0,4,.t 16),(4,1,.t 17)]),.c 19 189 [.t 15,.t 18],.M 6 19,.f 7 true]))) (.r [.F 20 4 3,.l 21 4 3 1,.N 22 21,.M 8 22] (.seq (.block 0 (.seq (.r [.F 24 4 1,.l 25 4 1 1,.o 26 (.bin .eql (.t 25) (.c (.str [111,110,101]))),.M 27 26,.g 28 (.m 8) 27 true,.g 29 (.bin .neq (.t 28) (.i 0)) 27 true,.P 30 27 29,.M 23 30] (.cond (.t 23) (.skip) (.r [.F 31 4 1,.l 32 4 1 1,.o 33 (.bin .eql (.t 32) (.c (.str [105,110,118]))),.M 34 33,.g 35 (.m 8) 34 true,.g 36 (.bin .neq (.t 35) (.i 1)) 34 true,.P 37 34 36,.M 23 37] (.cond (.t 23) (.skip) (.q [.F 38 4 1,.l 39 4 1 1,.o 40 (.bin .eql (.t 39) (.c (.str [109,117,108]))),.M 41 40,.g 42 (.m 8) 41 true,.g 43 (.bin .lss (.t 42) (.i 2)) 41 true,.P 44 41 43,.M 23 44]))))) (.cond (.t 23) (.v [.o 6 (.mov (.c (.gs 0 0 0 0))),.f 7 false]) (.r [.F 46 4 1,.l 47 4 1 1,.o 48 (.bin .eql (.t 47) (.c (.str [105,110,118]))),.M 45 48] (.i 45 (.q [.M 49 2,.o 50 (.un .neg (.t 49)),.M 2 50])))))) (.r [.f 9 true] (.seq (.r [.F 51 4 3,.l 52 4 3 1,.N 53 52,.I 54 0] (.block 1 (.loop (f187l0)))) (f187r0))))))
def f187:Qi:=⟨3,69,[.tmp 6,.tmp 7],f187C,true⟩
@[simp] theorem f187B:f187.body=f187C∧f187.res=[.tmp 6,.tmp 7]∧f187.keep=true:=⟨rfl,rfl,rfl⟩
def f188C:AC:= .r [.b 1 0,.f 2 false] (.v [.F 3 1 0,.l 4 1 0 1,.C 5 .eql 4 3,.M 6 5,.g 7 (.fad 1 1) 6 true,.g 8 (.ldf 1 1 1 false) 6 true,.g 9 (.bin .eql (.t 8) (.c (.str [109,117,108]))) 6 true,.g 10 (.m 9) 6 true,.g 11 (.fad 1 1) 10 false,.g 12 (.ldf 1 1 1 false) 10 false,.g 13 (.bin .eql (.t 12) (.c (.str [105,110,118]))) 10 false,.g 14 (.pick (.t 10) (.c (.bool true)) (.t 13)) 6 true,.g 15 (.m 14) 6 true,.g 16 (.fad 1 1) 15 false,.g 17 (.ldf 1 1 1 false) 15 false,.g 18 (.bin .eql (.t 17) (.c (.str [111,110,101]))) 15 false,.g 19 (.pick (.t 15) (.c (.bool true)) (.t 18)) 6 true,.P 20 6 19,.M 2 20])
def f188:Qi:=⟨1,21,[.tmp 2],f188C,false⟩
@[simp] theorem f188B:f188.body=f188C∧f188.res=[.tmp 2]∧f188.keep=false:=⟨rfl,rfl,rfl⟩
def f189C:AC:= .r [.b 3 1,.o 4 (.mov (.c (.gs 0 0 0 0)))] (.r [.M 8 0,.F 9 3 0,.L 10 3 0 4,.c 11 191 [.t 8,.t 10,.c (.fn 190 [])],.M 7 11,.E 12 7 0,.E 13 7 1,.M 5 12,.M 6 13] (.seq (.r [.M 14 6,.o 15 (.un .not (.t 14))] (.i 15 (.seq (.z [.M 16 0,.M 17 5,.F 18 3 0,.L 19 3 0 4,.c 20 192 [.t 19],.F 21 3 4,.l 22 3 4 1,.o 23 (.mkst [.int .i64 0,.str [],.int .i64 0,.sl true 4 [],.int .i64 0] [(0,4,.t 20),(4,1,.t 22)]),.o 24 (.mksl 5 [.t 23]),.c 25 194 [.t 16,.t 17,.t 24],.M 4 25]) (.ret)))) (.seq (.z [.M 26 0,.M 27 5,.X 28 5 26 27,.o 29 (.fadr 28 4),.o 30 (.ldg 29 1 false),.F 31 3 4,.l 32 3 4 1,.B 33 .add 30 32,.X 34 5 26 27,.o 35 (.fadr 34 4),.n (.st 35 1 (.t 33))]) (.seq (.r [.M 36 0,.M 37 5,.X 38 5 36 37,.o 39 (.fadr 38 4),.o 40 (.ldg 39 1 false),.C 41 .eql 40 0] (.i 41 (.v [.M 42 0,.M 43 5,.M 44 5,.C 45 .add 44 1,.c 46 195 [.t 42,.t 43,.t 45],.M 4 46]))) (.v [.M 47 0,.M 4 47])))))
def f189:Qi:=⟨2,48,[.tmp 4],f189C,true⟩
@[simp] theorem f189B:f189.body=f189C∧f189.res=[.tmp 4]∧f189.keep=true:=⟨rfl,rfl,rfl⟩
def f190C:AC:= .r [.b 2 0,.b 3 1,.I 4 0] (.v [.F 5 2 0,.L 6 2 0 4,.L 7 3 0 4,.c 8 30 [.t 6,.t 7],.M 4 8])
def f190:Qi:=⟨2,9,[.tmp 4],f190C,false⟩
def f191l0:AC:= .seq (.r [.M 15 9,.M 16 10,.B 17 .lss 15 16] (.x 17 0)) (.block 1 (.r [.M 18 9,.M 19 10,.B 20 .add 18 19,.o 21 (.conv .u64 (.t 20)),.o 22 (.bin .shr (.t 21) (.c (.int .u64 1))),.o 23 (.conv .i64 (.t 22)),.M 11 23] (.seq (.z [.M 24 2,.M 25 0,.M 26 11,.X 27 5 25 26,.o 28 (.ldg 27 5 true),.L 29 4 0 4,.o 30 (.callv (.t 24) [.t 28,.t 29]),.C 31 .lss 30 0]) (.cond (.t 31) (.q [.M 32 11,.C 33 .add 32 1,.M 9 33]) (.q [.M 34 11,.M 10 34])))))
def f191r0:AC:= .seq (.z [.M 35 9,.M 36 9,.M 37 8,.B 38 .lss 36 37,.M 39 38,.g 40 (.m 2) 39 true,.g 41 (.m 0) 39 true,.g 42 (.m 9) 39 true,.g 43 (.idxa 5 (.t 41) (.t 42)) 39 true,.g 44 (.ldg 43 5 true) 39 true,.g 45 (.ldf 4 0 4 true) 39 true,.g 46 (.callv (.t 40) [.t 44,.t 45]) 39 true,.g 47 (.bin .eql (.t 46) (.i 0)) 39 true,.P 48 39 47,.M 6 35,.M 7 48]) (.ret)
def f191C:AC:= .r [.b 4 1,.I 6 0,.f 7 false] (.r [.M 12 0,.N 13 12,.M 8 13] (.r [.M 14 8,.I 9 0,.M 10 14] (.seq (.block 0 (.loop (f191l0))) (f191r0))))
def f191:Qi:=⟨3,49,[.tmp 6,.tmp 7],f191C,false⟩
@[simp] theorem f191B:f191.body=f191C∧f191.res=[.tmp 6,.tmp 7]∧f191.keep=false:=⟨rfl,rfl,rfl⟩
def f192l0:AC:= .r [.B 13 .lss 12 11] (.seq (.x 13 0) (.seq (.block 1 (.r [.M 14 12,.X 15 4 10 12,.o 16 (.ldg 15 4 true),.T 4,.M 3 14,.S 4 0 4 16] (.z [.F 17 1 3,.l 18 1 3 1,.M 19 3,.L 20 4 0 4,.c 21 192 [.t 20],.X 22 4 18 19,.n (.st 22 4 (.t 21))]))) (.q [.C 23 .add 12 1,.M 12 23])))
def f192r0:AC:= .v [.o 24 (.ldfz 1 0 4 3 4),.S 2 0 4 24]
def f192C:AC:= .r [.b 1 0,.T 2] (.r [.F 5 1 3,.l 6 1 3 1,.c 7 193 [.t 6],.F 8 1 3,.S 1 3 1 7] (.seq (.r [.F 9 1 3,.l 10 1 3 1,.N 11 10,.I 12 0] (.block 0 (.loop (f192l0)))) (f192r0)))
def f192:Qi:=⟨1,25,[.cell 2 4 true],f192C,false⟩
@[simp] theorem f192B:f192.body=f192C∧f192.res=[.cell 2 4 true]∧f192.keep=false:=⟨rfl,rfl,rfl⟩
def f195C:AC:= .r [.Z 6 5] (.r [.M 8 0,.M 9 1,.M 10 2,.M 11 0,.N 12 11,.o 13 (.slcc 5 (.t 8) (some (.t 9)) (.t 10) (.t 12))] (.seq (.r [.M 14 1,.M 15 2,.B 16 .eql 14 15] (.i 16 (.v [.M 17 0,.M 6 17]))) (.r [.M 18 0,.N 19 18,.M 7 19] (.seq (.z [.M 20 0,.M 21 1,.o 22 (.slcl 5 (.t 20) none (some (.t 21))),.M 23 0,.M 24 2,.o 25 (.slcl 5 (.t 23) (some (.t 24)) none),.o 26 (.appM 64 5 (.t 22) (.t 25)),.M 0 26]) (.r [.M 27 0,.M 28 0,.N 29 28,.M 30 7,.o 31 (.slcx 5 (.t 27) (some (.t 29)) (some (.t 30))),.n (.clr 5 (.t 31))] (.v [.M 32 0,.M 6 32]))))))
def f195:Qi:=⟨3,33,[.tmp 6],f195C,true⟩
@[simp] theorem f195B:f195.body=f195C∧f195.res=[.tmp 6]∧f195.keep=true:=⟨rfl,rfl,rfl⟩
def f196l0:AC:= .r [.B 36 .lss 35 34] (.seq (.x 36 2) (.seq (.block 3 (.q [.o 37 (.mvs 5),.F 38 8 0,.L 39 8 0 4,.c 40 192 [.t 39],.o 41 (.mksl 4 [.t 40]),.A 42 56 4 37 41,.o 5 (.mvs 42)])) (.q [.C 43 .add 35 1,.M 35 43])))
def f196l1:AC:= .r [.B 48 .lss 47 46] (.seq (.x 48 4) (.seq (.block 5 (.q [.o 49 (.mvs 6),.F 50 8 0,.L 51 8 0 4,.c 52 192 [.t 51],.o 53 (.mksl 4 [.t 52]),.c 54 198 [.c (.str [105,110,118]),.t 53],.o 55 (.mksl 4 [.t 54]),.A 56 56 4 49 55,.o 6 (.mvs 56)])) (.q [.C 57 .add 47 1,.M 47 57])))
def f196r0:AC:= .r [.F 44 8 4,.l 45 8 4 1,.o 46 (.un .neg (.t 45)),.I 47 0] (.block 4 (.loop (f196l1)))
def f196r1:AC:= .q [.C 58 .add 20 1,.M 20 58]
def f196l2:AC:= .r [.B 21 .lss 20 19] (.seq (.x 21 0) (.seq (.block 1 (.r [.X 22 5 18 20,.DT 23 22 5,.o 8 (.alloc [.int .i64 0,.str [],.int .i64 0,.sl true 4 [],.int .i64 0]),.S 8 0 5 23] (.seq (.r [.F 24 8 4,.l 25 8 4 1,.C 26 .gtr 25 8,.M 27 26,.g 28 (.fad 8 4) 27 false,.g 29 (.ldf 8 4 1 false) 27 false,.g 30 (.bin .lss (.t 29) (.i (-8))) 27 false,.Q 31 27 30] (.i 31 (.v [.o 32 (.mkst zG []),.n (.stn 2 0 4 (.t 32) zT),.I 3 3]))) (.seq (.r [.F 33 8 4,.l 34 8 4 1,.I 35 0] (.block 2 (.loop (f196l0)))) (f196r0))))) (f196r1)))
def f196r2:AC:= .r [.M 59 5,.M 60 6,.o 61 (.mksl 1 [.t 59,.t 60]),.c 62 180 [.t 61],.o 9 (.mvs 62)] (.seq (.r [.M 63 9,.N 64 63,.C 65 .gtr 64 8] (.i 65 (.v [.o 66 (.mkst zG []),.n (.stn 2 0 4 (.t 66) zT),.I 3 3]))) (.r [.M 67 9,.c 68 198 [.c (.str [109,117,108]),.t 67],.T 10,.S 10 0 4 68] (.seq (.r [.M 69 9,.N 70 69] (.block 6 (.r [.C 72 .eql 70 0,.M 71 72] (.cond (.t 71) (.q [.c 73 198 [.c (.str [111,110,101]),.c (.sl true 4 [])],.S 10 0 4 73]) (.r [.C 75 .eql 70 1,.M 74 75] (.i 74 (.q [.M 76 9,.o 77 (.idxa 4 (.t 76) (.i 0)),.DT 78 77 4,.S 10 0 4 78]))))))) (.seq (.r [.L 79 10 0 4,.c 80 6 [.t 79],.M 11 80] (.r [.M 81 11,.C 82 .neq 81 0] (.i 82 (.v [.o 83 (.mkst zG []),.M 84 11,.n (.stn 2 0 4 (.t 83) zT),.M 3 84])))) (.v [.L 85 10 0 4,.S 2 0 4 85,.I 3 0])))))
def f196C:AC:= .r [.T 2,.I 3 0] (.seq (.r [.M 12 0,.c 13 197 [.t 12],.M 4 13] (.r [.M 14 4,.C 15 .neq 14 0] (.i 15 (.v [.o 16 (.mkst zG []),.M 17 4,.n (.stn 2 0 4 (.t 16) zT),.M 3 17])))) (.r [.Z 5 4,.Z 6 4] (.seq (.r [.M 18 0,.N 19 18,.I 20 0] (.block 0 (.loop (f196l2)))) (f196r2))))
def f196:Qi:=⟨1,86,[.cell 2 4 true,.tmp 3],f196C,false⟩
@[simp] theorem f196B:f196.body=f196C∧f196.res=[.cell 2 4 true,.tmp 3]∧f196.keep=false:=⟨rfl,rfl,rfl⟩
def f197l0:AC:= .r [.B 12 .lss 11 10] (.seq (.x 12 0) (.seq (.block 1 (.r [.M 13 11,.X 14 5 9 11,.DT 15 14 5,.o 4 (.alloc [.int .i64 0,.str [],.int .i64 0,.sl true 4 [],.int .i64 0]),.M 3 13,.S 4 0 5 15] (.seq (.r [.F 16 4 0,.L 17 4 0 4,.c 18 6 [.t 17],.M 5 18] (.r [.M 19 5,.C 20 .neq 19 0] (.i 20 (.v [.M 21 5,.M 2 21])))) (.block 2 (.r [.F 23 4 0,.L 24 4 0 4,.c 25 188 [.t 24],.M 22 25] (.cond (.t 22) (.v [.I 2 1]) (.r [.F 27 4 4,.l 28 4 4 1,.C 29 .eql 28 0,.M 30 29,.g 31 (.fad 4 4) 30 false,.g 32 (.ldf 4 4 1 false) 30 false,.g 33 (.bin .lss (.t 32) (.i (-1000))) 30 false,.Q 34 30 33,.M 35 34,.g 36 (.fad 4 4) 35 false,.g 37 (.ldf 4 4 1 false) 35 false,.g 38 (.bin .gtr (.t 37) (.i 1000)) 35 false,.Q 39 35 38,.M 26 39] (.cond (.t 26) (.v [.I 2 7]) (.seq (.z [.M 41 3,.C 42 .gtr 41 0,.M 43 42,.g 44 (.m 0) 43 true,.g 45 (.m 3) 43 true,.g 46 (.bin .sub (.t 45) (.i 1)) 43 true,.g 47 (.idxa 5 (.t 44) (.t 46)) 43 true,.g 48 (.fadr 47 0) 43 true,.g 49 (.ld 48 4 true) 43 true,.g 50 (.fad 4 0) 43 true,.g 51 (.ldf 4 0 4 true) 43 true,.g 52 (.call 30 [.t 49,.t 51]) 43 true,.g 53 (.bin .geq (.t 52) (.i 0)) 43 true,.P 54 43 53,.M 40 54]) (.i 40 (.v [.I 2 5]))))))))))) (.q [.C 55 .add 11 1,.M 11 55])))
def f197r0:AC:= .v [.I 2 0]
def f197C:AC:= .r [.I 2 0] (.seq (.r [.M 6 0,.N 7 6,.C 8 .gtr 7 200] (.i 8 (.v [.I 2 3]))) (.seq (.r [.M 9 0,.N 10 9,.I 11 0] (.block 0 (.loop (f197l0)))) (f197r0)))
def f197:Qi:=⟨1,56,[.tmp 2],f197C,false⟩
@[simp] theorem f197B:f197.body=f197C∧f197.res=[.tmp 2]∧f197.keep=false:=⟨rfl,rfl,rfl⟩
def f198C:AC:= .r [.T 4] (.v [.M 5 0,.M 6 1,.o 7 (.mkst zT [(0,1,.i 3),(1,1,.t 5),(3,1,.t 6)]),.S 4 0 4 7])
def f198:Qi:=⟨2,8,[.cell 4 4 true],f198C,false⟩
def f199C:AC:= .r [.b 2 0,.b 3 1,.T 4,.I 5 0] (.r [.L 11 3 0 4,.c 12 186 [.t 11],.M 10 12,.E 13 10 0,.E 14 10 1,.o 6 (.mvs 13),.M 7 14] (.seq (.r [.M 15 7,.C 16 .neq 15 0] (.i 16 (.v [.o 17 (.mkst zG []),.M 18 7,.n (.stn 4 0 4 (.t 17) zT),.M 5 18]))) (.seq (.r [.L 19 2 0 4,.c 20 71 [.t 19,.c (.str [101,120,112])]] (.i 20 (.r [.F 22 2 3,.l 23 2 3 1,.o 24 (.idxa 4 (.t 23) (.i 1)),.DT 25 24 4,.c 26 186 [.t 25],.M 21 26,.E 27 21 0,.E 28 21 1,.o 8 (.mvs 27),.M 9 28] (.seq (.r [.M 29 9,.C 30 .neq 29 0] (.i 30 (.v [.o 31 (.mkst zG []),.M 32 9,.n (.stn 4 0 4 (.t 31) zT),.M 5 32]))) (.seq (.r [.M 34 8,.M 35 6,.c 36 200 [.t 34,.t 35],.M 33 36,.E 37 33 0,.E 38 33 1,.o 6 (.mvs 37),.M 9 38] (.r [.M 39 9,.C 40 .neq 39 0] (.i 40 (.v [.o 41 (.mkst zG []),.M 42 9,.n (.stn 4 0 4 (.t 41) zT),.M 5 42])))) (.q [.F 43 2 3,.l 44 2 3 1,.o 45 (.idxa 4 (.t 44) (.i 0)),.DT 46 45 4,.S 2 0 4 46])))))) (.seq (.r [.M 47 6,.N 48 47,.C 49 .eql 48 0] (.i 49 (.v [.L 50 2 0 4,.S 4 0 4 50,.I 5 0]))) (.r [.M 52 6,.c 53 196 [.t 52],.M 51 53,.E 54 51 0,.E 55 51 1,.S 3 0 4 54,.M 7 55] (.seq (.r [.M 56 7,.C 57 .neq 56 0] (.i 57 (.v [.o 58 (.mkst zG []),.M 59 7,.n (.stn 4 0 4 (.t 58) zT),.M 5 59]))) (.v [.L 60 2 0 4,.L 61 3 0 4,.o 62 (.mksl 4 [.t 60,.t 61]),.c 63 49 [.c (.str [101,120,112]),.t 62],.S 4 0 4 63,.I 5 0])))))))
def f199:Qi:=⟨2,64,[.cell 4 4 true,.tmp 5],f199C,false⟩
@[simp] theorem f199B:f199.body=f199C∧f199.res=[.cell 4 4 true,.tmp 5]∧f199.keep=false:=⟨rfl,rfl,rfl⟩
def f200l0:AC:= .r [.B 26 .lss 25 24] (.seq (.x 26 0) (.seq (.block 1 (.r [.X 27 5 23 25,.DT 28 27 5,.o 10 (.alloc [.int .i64 0,.str [],.int .i64 0,.sl true 4 [],.int .i64 0]),.S 10 0 5 28] (.q [.M 29 8,.L 30 10 0 5,.c 31 189 [.t 29,.t 30],.M 8 31]))) (.q [.C 32 .add 25 1,.M 25 32])))
def f200r0:AC:= .v [.M 33 8,.c 34 202 [.t 33],.E 35 34 0,.E 36 34 1,.o 4 (.mvs 35),.M 5 36]
def f200C:AC:= .r [.Z 4 5,.I 5 0] (.seq (.r [.M 11 0,.c 12 197 [.t 11],.M 6 12] (.r [.M 13 6,.C 14 .neq 13 0] (.i 14 (.v [.M 15 6,.Z 4 5,.M 5 15])))) (.seq (.r [.M 16 1,.c 17 197 [.t 16],.M 7 17] (.r [.M 18 7,.C 19 .neq 18 0] (.i 19 (.v [.M 20 7,.Z 4 5,.M 5 20])))) (.r [.M 21 0,.c 22 201 [.t 21],.M 8 22] (.seq (.r [.M 23 1,.N 24 23,.I 25 0] (.block 0 (.loop (f200l0)))) (f200r0)))))
def f200:Qi:=⟨2,37,[.tmp 4,.tmp 5],f200C,false⟩
@[simp] theorem f200B:f200.body=f200C∧f200.res=[.tmp 4,.tmp 5]∧f200.keep=false:=⟨rfl,rfl,rfl⟩
def f201l0:AC:= .r [.B 9 .lss 8 7] (.seq (.x 9 0) (.seq (.block 1 (.r [.X 10 5 6 8,.DT 11 10 5,.o 5 (.alloc [.int .i64 0,.str [],.int .i64 0,.sl true 4 [],.int .i64 0]),.S 5 0 5 11] (.z [.M 12 3,.F 13 5 0,.L 14 5 0 4,.c 15 192 [.t 14],.F 16 5 4,.l 17 5 4 1,.o 18 (.mkst [.int .i64 0,.str [],.int .i64 0,.sl true 4 [],.int .i64 0] [(0,4,.t 15),(4,1,.t 17)]),.o 19 (.mksl 5 [.t 18]),.o 20 (.appM 64 5 (.t 12) (.t 19)),.M 3 20]))) (.q [.C 21 .add 8 1,.M 8 21])))
def f201r0:AC:= .v [.M 22 3,.M 2 22]
def f201C:AC:= .r [.o 2 (.mov (.c (.gs 0 0 0 0)))] (.r [.o 3 (.mov (.c (.gs 0 0 0 0)))] (.seq (.r [.M 6 0,.N 7 6,.I 8 0] (.block 0 (.loop (f201l0)))) (f201r0)))
def f201:Qi:=⟨1,23,[.tmp 2],f201C,true⟩
@[simp] theorem f201B:f201.body=f201C∧f201.res=[.tmp 2]∧f201.keep=true:=⟨rfl,rfl,rfl⟩
def f202C:AC:= .r [.Z 2 5,.I 3 0] (.seq (.r [.M 4 0,.c 5 204 [.t 4,.c (.fn 203 [])]] (.i 5 (.v [.Z 2 5,.I 3 7]))) (.seq (.r [.M 6 0,.N 7 6,.C 8 .gtr 7 200] (.i 8 (.v [.Z 2 5,.I 3 3]))) (.v [.M 9 0,.o 2 (.frz 9 5),.I 3 0])))
def f202:Qi:=⟨1,10,[.tmp 2,.tmp 3],f202C,false⟩
@[simp] theorem f202B:f202.body=f202C∧f202.res=[.tmp 2,.tmp 3]∧f202.keep=false:=⟨rfl,rfl,rfl⟩
def f203C:AC:= .r [.b 1 0,.f 2 false] (.v [.F 3 1 4,.l 4 1 4 1,.C 5 .lss 4 (-1000),.M 6 5,.g 7 (.fad 1 4) 6 false,.g 8 (.ldf 1 4 1 false) 6 false,.g 9 (.bin .gtr (.t 8) (.i 1000)) 6 false,.Q 10 6 9,.M 2 10])
def f203:Qi:=⟨1,11,[.tmp 2],f203C,false⟩
@[simp] theorem f203B:f203.body=f203C∧f203.res=[.tmp 2]∧f203.keep=false:=⟨rfl,rfl,rfl⟩
def f204C:AC:= .r [.f 4 false] (.v [.M 5 0,.M 6 1,.c 7 205 [.t 5,.t 6],.C 8 .geq 7 0,.M 4 8])
def f204:Qi:=⟨2,9,[.tmp 4],f204C,false⟩
@[simp] theorem f204B:f204.body=f204C∧f204.res=[.tmp 4]∧f204.keep=false:=⟨rfl,rfl,rfl⟩
def f205l0:AC:= .r [.B 9 .lss 8 7] (.seq (.x 9 0) (.seq (.block 1 (.r [.M 10 8,.M 5 10] (.r [.M 11 1,.M 12 0,.M 13 5,.X 14 5 12 13,.o 15 (.ldg 14 5 true),.o 16 (.callv (.t 11) [.t 15])] (.i 16 (.v [.M 17 5,.M 4 17]))))) (.q [.C 18 .add 8 1,.M 8 18])))
def f205r0:AC:= .v [.I 4 (-1)]
def f205C:AC:= .r [.I 4 0] (.seq (.r [.M 6 0,.N 7 6,.I 8 0] (.block 0 (.loop (f205l0)))) (f205r0))
def f205:Qi:=⟨2,19,[.tmp 4],f205C,false⟩
@[simp] theorem f205B:f205.body=f205C∧f205.res=[.tmp 4]∧f205.keep=false:=⟨rfl,rfl,rfl⟩
def f206C:AC:= .r [.f 2 false] (.v [.M 3 0,.c 4 43 [.t 3],.o 5 (.fld 3 1 false (.t 4)),.C 6 .neq 5 3,.M 2 6])
def f206:Qi:=⟨1,7,[.tmp 2],f206C,false⟩
@[simp] theorem f206B:f206.body=f206C∧f206.res=[.tmp 2]∧f206.keep=false:=⟨rfl,rfl,rfl⟩
def f207l0:AC:= .r [.B 21 .lss 20 19] (.seq (.x 21 0) (.seq (.block 1 (.r [.X 22 4 18 20,.DT 23 22 4,.T 6,.S 6 0 4 23] (.r [.L 24 6 0 4,.M 25 1,.c 26 207 [.t 24,.t 25],.o 27 (.un .not (.t 26))] (.i 27 (.v [.f 4 false]))))) (.q [.C 28 .add 20 1,.M 20 28])))
def f207r0:AC:= .v [.f 4 true]
def f207C:AC:= .r [.b 2 0,.f 4 false] (.seq (.r [.F 7 2 0,.l 8 2 0 1,.C 9 .eql 8 3,.M 10 9,.g 11 (.m 1) 10 true,.g 12 (.fad 2 1) 10 true,.g 13 (.ldf 2 1 1 false) 10 true,.g 14 (.callv (.t 11) [.t 13]) 10 true,.g 15 (.un .not (.t 14)) 10 true,.P 16 10 15] (.i 16 (.v [.f 4 false]))) (.seq (.r [.F 17 2 3,.l 18 2 3 1,.N 19 18,.I 20 0] (.block 0 (.loop (f207l0)))) (f207r0)))
def f207:Qi:=⟨2,29,[.tmp 4],f207C,false⟩
@[simp] theorem f207B:f207.body=f207C∧f207.res=[.tmp 4]∧f207.keep=false:=⟨rfl,rfl,rfl⟩
def f214C:AC:= .r [.f 4 false] (.v [.M 5 0,.M 6 1,.c 7 215 [.t 5,.t 6],.C 8 .geq 7 0,.M 4 8])
def f214:Qi:=⟨2,9,[.tmp 4],f214C,false⟩
@[simp] theorem f214B:f214.body=f214C∧f214.res=[.tmp 4]∧f214.keep=false:=⟨rfl,rfl,rfl⟩
def f215l0:AC:= .r [.B 9 .lss 8 7] (.seq (.x 9 0) (.seq (.block 1 (.r [.M 10 8,.M 5 10] (.r [.M 11 1,.M 12 0,.M 13 5,.X 14 4 12 13,.DT 15 14 4,.o 16 (.callv (.t 11) [.t 15])] (.i 16 (.v [.M 17 5,.M 4 17]))))) (.q [.C 18 .add 8 1,.M 8 18])))
def f215r0:AC:= .v [.I 4 (-1)]
def f215C:AC:= .r [.I 4 0] (.seq (.r [.M 6 0,.N 7 6,.I 8 0] (.block 0 (.loop (f215l0)))) (f215r0))
def f215:Qi:=⟨2,19,[.tmp 4],f215C,false⟩
@[simp] theorem f215B:f215.body=f215C∧f215.res=[.tmp 4]∧f215.keep=false:=⟨rfl,rfl,rfl⟩
def f237l0:AC:= .seq (.r [.M 7 4,.F 8 1 3,.l 9 1 3 1,.N 10 9,.B 11 .lss 7 10] (.x 11 0)) (.seq (.block 1 (.q [.o 14 (.mvs 3),.F 15 1 3,.l 16 1 3 1,.M 17 4,.X 18 4 16 17,.DT 19 18 4,.c 20 237 [.t 19],.A 21 56 4 14 20,.o 3 (.mvs 21)])) (.q [.M 12 4,.C 13 .add 12 1,.M 4 13]))
def f237r0:AC:= .v [.M 22 3,.o 2 (.mvs 22)]
def f237C:AC:= .r [.b 1 0,.Z 2 4] (.r [.L 5 1 0 4,.o 6 (.mksl 4 [.t 5]),.o 3 (.mvs 6)] (.seq (.r [.I 4 0] (.block 0 (.loop (f237l0)))) (f237r0)))
def f237:Qi:=⟨1,23,[.tmp 2],f237C,false⟩
@[simp] theorem f237B:f237.body=f237C∧f237.res=[.tmp 2]∧f237.keep=false:=⟨rfl,rfl,rfl⟩
def f239l0:AC:= .seq (.r [.M 9 7,.M 10 0,.N 11 10,.B 12 .lss 9 11] (.x 12 0)) (.seq (.block 1 (.seq (.z [.L 15 3 0 4,.M 16 0,.M 17 7,.X 18 4 16 17,.DT 19 18 4,.c 20 90 [.t 15,.t 19],.M 8 20]) (.seq (.r [.M 21 6,.o 22 (.un .not (.t 21)),.M 23 22,.g 24 (.m 8) 23 true,.g 25 (.bin .leq (.t 24) (.i 0)) 23 true,.P 26 23 25] (.i 26 (.r [.f 6 true] (.r [.M 27 8,.C 28 .lss 27 0] (.i 28 (.q [.o 29 (.mvs 5),.L 30 3 0 4,.o 31 (.mksl 4 [.t 30]),.A 32 56 4 29 31,.o 5 (.mvs 32)])))))) (.q [.o 33 (.mvs 5),.M 34 0,.M 35 7,.X 36 4 34 35,.DT 37 36 4,.o 38 (.mksl 4 [.t 37]),.A 39 56 4 33 38,.o 5 (.mvs 39)])))) (.q [.M 13 7,.C 14 .add 13 1,.M 7 14]))
def f239r0:AC:= .seq (.r [.M 40 6,.o 41 (.un .not (.t 40))] (.i 41 (.q [.o 42 (.mvs 5),.L 43 3 0 4,.o 44 (.mksl 4 [.t 43]),.A 45 56 4 42 44,.o 5 (.mvs 45)]))) (.v [.M 46 5,.o 4 (.mvs 46)])
def f239C:AC:= .r [.b 3 1,.Z 4 4] (.r [.Z 5 4] (.r [.f 6 false] (.seq (.r [.I 7 0] (.block 0 (.loop (f239l0)))) (f239r0))))
def f239:Qi:=⟨2,47,[.tmp 4],f239C,false⟩
@[simp] theorem f239B:f239.body=f239C∧f239.res=[.tmp 4]∧f239.keep=false:=⟨rfl,rfl,rfl⟩
def f240l0:AC:= .seq (.r [.M 22 6,.M 23 5,.N 24 23,.B 25 .lss 22 24] (.x 25 0)) (.seq (.block 1 (.r [.M 28 5,.M 29 6,.X 30 4 28 29,.o 31 (.fadr 30 0),.DF 32 31 1,.C 33 .eql 32 3,.M 34 33,.g 35 (.m 5) 34 true,.g 36 (.m 6) 34 true,.g 37 (.idxa 4 (.t 35) (.t 36)) 34 true,.g 38 (.fadr 37 1) 34 true,.g 39 (.ld 38 1 false) 34 true,.g 40 (.call 128 [.t 39]) 34 true,.g 41 (.bin .eql (.t 40) (.i 3)) 34 true,.P 42 34 41] (.i 42 (.v [.f 2 false])))) (.q [.M 26 6,.C 27 .add 26 1,.M 6 27]))
def f240r0:AC:= .v [.f 2 true]
def f240C:AC:= .r [.b 1 0,.f 2 false] (.r [.L 8 1 0 4,.c 9 241 [.t 8],.M 7 9,.E 10 7 0,.E 11 7 1,.T 3,.S 3 0 4 10,.M 4 11] (.seq (.r [.M 12 4,.C 13 .neq 12 0,.M 14 13,.g 15 (.ldf 1 0 4 true) 14 false,.g 16 (.ldf 3 0 4 true) 14 false,.g 17 (.call 89 [.t 15,.t 16]) 14 false,.g 18 (.un .not (.t 17)) 14 false,.Q 19 14 18] (.i 19 (.v [.f 2 false]))) (.r [.L 20 1 0 4,.c 21 237 [.t 20],.o 5 (.mvs 21)] (.seq (.r [.I 6 0] (.block 0 (.loop (f240l0)))) (f240r0)))))
def f240:Qi:=⟨1,43,[.tmp 2],f240C,false⟩
@[simp] theorem f240B:f240.body=f240C∧f240.res=[.tmp 2]∧f240.keep=false:=⟨rfl,rfl,rfl⟩
def f241C:AC:= .r [.b 1 0,.T 2,.I 3 0] (.seq (.r [.L 8 1 0 4,.c 9 126 [.t 8],.M 4 9] (.r [.M 10 4,.C 11 .neq 10 0] (.i 11 (.v [.o 12 (.mkst zG []),.M 13 4,.n (.stn 2 0 4 (.t 12) zT),.M 3 13])))) (.r [.L 15 1 0 4,.c 16 242 [.t 15],.M 14 16,.E 17 14 0,.E 18 14 1,.T 5,.S 5 0 4 17,.M 6 18] (.seq (.r [.M 19 6,.C 20 .neq 19 0] (.i 20 (.v [.o 21 (.mkst zG []),.M 22 6,.n (.stn 2 0 4 (.t 21) zT),.M 3 22]))) (.seq (.r [.L 23 5 0 4,.c 24 54 [.t 23],.M 7 24] (.r [.M 25 7,.C 26 .neq 25 0] (.i 26 (.v [.o 27 (.mkst zG []),.M 28 7,.n (.stn 2 0 4 (.t 27) zT),.M 3 28])))) (.v [.L 29 5 0 4,.S 2 0 4 29,.I 3 0])))))
def f241:Qi:=⟨1,30,[.cell 2 4 true,.tmp 3],f241C,false⟩
@[simp] theorem f241B:f241.body=f241C∧f241.res=[.cell 2 4 true,.tmp 3]∧f241.keep=false:=⟨rfl,rfl,rfl⟩
def f242l0:AC:= .seq (.r [.M 15 5,.F 16 1 3,.l 17 1 3 1,.N 18 17,.B 19 .lss 15 18] (.x 19 0)) (.seq (.block 1 (.r [.F 23 1 3,.l 24 1 3 1,.M 25 5,.X 26 4 24 25,.DT 27 26 4,.c 28 242 [.t 27],.M 22 28,.E 29 22 0,.E 30 22 1,.T 6,.S 6 0 4 29,.M 7 30] (.seq (.r [.M 31 7,.C 32 .neq 31 0] (.i 32 (.v [.o 33 (.mkst zG []),.M 34 7,.n (.stn 2 0 4 (.t 33) zT),.M 3 34]))) (.q [.o 35 (.mvs 4),.L 36 6 0 4,.o 37 (.mksl 4 [.t 36]),.A 38 56 4 35 37,.o 4 (.mvs 38)])))) (.q [.M 20 5,.C 21 .add 20 1,.M 5 21]))
def f242r0:AC:= .r [.F 39 1 1,.l 40 1 1 1,.M 41 4,.c 42 120 [.t 40,.t 41],.T 8,.S 8 0 4 42] (.seq (.block 2 (.r [.F 44 1 1,.l 45 1 1 1,.c 46 128 [.t 45],.C 47 .eql 46 3,.M 43 47] (.cond (.t 43) (.r [.L 49 8 0 4,.c 50 243 [.t 49],.M 48 50,.E 51 48 0,.E 52 48 1,.T 9,.S 9 0 4 51,.M 10 52] (.v [.L 53 9 0 4,.S 2 0 4 53,.I 3 0])) (.r [.F 55 1 1,.l 56 1 1 1,.o 57 (.bin .eql (.t 56) (.c (.str [120,111,114]))),.M 54 57] (.cond (.t 54) (.v [.M 58 4,.c 59 244 [.t 58],.E 60 59 0,.E 61 59 1,.S 2 0 4 60,.M 3 61]) (.r [.F 63 1 1,.l 64 1 1 1,.o 65 (.bin .eql (.t 64) (.c (.str [109,117,108]))),.M 66 65,.g 67 (.fad 1 1) 66 false,.g 68 (.ldf 1 1 1 false) 66 false,.g 69 (.bin .eql (.t 68) (.c (.str [105,110,118]))) 66 false,.Q 70 66 69,.M 71 70,.g 72 (.fad 1 1) 71 false,.g 73 (.ldf 1 1 1 false) 71 false,.g 74 (.bin .eql (.t 73) (.c (.str [111,110,101]))) 71 false,.Q 75 71 74,.M 62 75] (.cond (.t 62) (.v [.L 76 8 0 4,.c 77 252 [.t 76],.E 78 77 0,.E 79 77 1,.S 2 0 4 78,.M 3 79]) (.r [.F 81 1 1,.l 82 1 1 1,.o 83 (.bin .eql (.t 82) (.c (.str [101,120,112]))),.M 80 83] (.i 80 (.seq (.z [.M 84 4,.o 85 (.idxa 4 (.t 84) (.i 0)),.DT 86 85 4,.M 87 4,.o 88 (.idxa 4 (.t 87) (.i 1)),.DT 89 88 4,.c 90 261 [.t 86,.t 89],.E 91 90 0,.E 92 90 1,.S 2 0 4 91,.M 3 92]) (.ret))))))))))) (.v [.L 93 8 0 4,.S 2 0 4 93,.I 3 0]))
def f242C:AC:= .r [.b 1 0,.T 2,.I 3 0] (.seq (.r [.F 11 1 0,.l 12 1 0 1,.C 13 .neq 12 3] (.i 13 (.v [.L 14 1 0 4,.S 2 0 4 14,.I 3 0]))) (.r [.Z 4 4] (.seq (.r [.I 5 0] (.block 0 (.loop (f242l0)))) (f242r0))))
def f242:Qi:=⟨1,94,[.cell 2 4 true,.tmp 3],f242C,false⟩
@[simp] theorem f242B:f242.body=f242C∧f242.res=[.cell 2 4 true,.tmp 3]∧f242.keep=false:=⟨rfl,rfl,rfl⟩
def f243C:AC:= .r [.b 1 0,.T 2,.f 3 false] (.r [.F 5 1 3,.l 6 1 3 1,.o 7 (.idxa 4 (.t 6) (.i 0)),.DT 8 7 4,.T 4,.S 4 0 4 8] (.seq (.block 0 (.r [.F 10 1 1,.l 11 1 1 1,.o 12 (.bin .eql (.t 11) (.c (.str [102,115,116]))),.M 13 12,.g 14 (.ldf 4 0 4 true) 13 true,.g 15 (.call 132 [.t 14,.c (.str [112,97,105,114])]) 13 true,.P 16 13 15,.M 9 16] (.cond (.t 9) (.v [.F 17 4 3,.l 18 4 3 1,.o 19 (.idxa 4 (.t 18) (.i 0)),.DT 20 19 4,.S 2 0 4 20,.f 3 true]) (.r [.F 22 1 1,.l 23 1 1 1,.o 24 (.bin .eql (.t 23) (.c (.str [115,110,100]))),.M 25 24,.g 26 (.ldf 4 0 4 true) 25 true,.g 27 (.call 132 [.t 26,.c (.str [112,97,105,114])]) 25 true,.P 28 25 27,.M 21 28] (.cond (.t 21) (.v [.F 29 4 3,.l 30 4 3 1,.o 31 (.idxa 4 (.t 30) (.i 1)),.DT 32 31 4,.S 2 0 4 32,.f 3 true]) (.seq (.z [.F 34 1 1,.l 35 1 1 1,.o 36 (.bin .eql (.t 35) (.c (.str [100,101,99]))),.M 37 36,.g 38 (.ldf 4 0 4 true) 37 true,.g 39 (.call 132 [.t 38,.c (.str [101,110,99])]) 37 true,.P 40 37 39,.M 41 40,.g 42 (.fad 4 3) 41 true,.g 43 (.ldf 4 3 1 false) 41 true,.g 44 (.idxa 4 (.t 43) (.i 1)) 41 true,.g 45 (.ld 44 4 true) 41 true,.g 46 (.fad 1 3) 41 true,.g 47 (.ldf 1 3 1 false) 41 true,.g 48 (.idxa 4 (.t 47) (.i 1)) 41 true,.g 49 (.ld 48 4 true) 41 true,.g 50 (.call 89 [.t 45,.t 49]) 41 true,.P 51 41 50,.M 33 51]) (.cond (.t 33) (.v [.F 52 4 3,.l 53 4 3 1,.o 54 (.idxa 4 (.t 53) (.i 0)),.DT 55 54 4,.S 2 0 4 55,.f 3 true]) (.seq (.z [.F 57 1 1,.l 58 1 1 1,.o 59 (.bin .eql (.t 58) (.c (.str [97,100,101,99]))),.M 60 59,.g 61 (.ldf 4 0 4 true) 60 true,.g 62 (.call 132 [.t 61,.c (.str [97,101,110,99])]) 60 true,.P 63 60 62,.M 64 63,.g 65 (.fad 4 3) 64 true,.g 66 (.ldf 4 3 1 false) 64 true,.g 67 (.idxa 4 (.t 66) (.i 1)) 64 true,.g 68 (.ld 67 4 true) 64 true,.g 69 (.fad 1 3) 64 true,.g 70 (.ldf 1 3 1 false) 64 true,.g 71 (.idxa 4 (.t 70) (.i 1)) 64 true,.g 72 (.ld 71 4 true) 64 true,.g 73 (.mksl 4 [.t 72]) 64 true,.g 74 (.call 120 [.c (.str [112,107]),.t 73]) 64 true,.g 75 (.call 89 [.t 68,.t 74]) 64 true,.P 76 64 75,.M 56 76]) (.cond (.t 56) (.v [.F 77 4 3,.l 78 4 3 1,.o 79 (.idxa 4 (.t 78) (.i 0)),.DT 80 79 4,.S 2 0 4 80,.f 3 true]) (.seq (.z [.F 82 1 1,.l 83 1 1 1,.o 84 (.bin .eql (.t 83) (.c (.str [111,112,101,110]))),.M 85 84,.g 86 (.ldf 4 0 4 true) 85 true,.g 87 (.call 132 [.t 86,.c (.str [115,105,103,110])]) 85 true,.P 88 85 87,.M 89 88,.g 90 (.fad 1 3) 89 true,.g 91 (.ldf 1 3 1 false) 89 true,.g 92 (.idxa 4 (.t 91) (.i 1)) 89 true,.g 93 (.ld 92 4 true) 89 true,.g 94 (.fad 4 3) 89 true,.g 95 (.ldf 4 3 1 false) 89 true,.g 96 (.idxa 4 (.t 95) (.i 1)) 89 true,.g 97 (.ld 96 4 true) 89 true,.g 98 (.mksl 4 [.t 97]) 89 true,.g 99 (.call 120 [.c (.str [112,107]),.t 98]) 89 true,.g 100 (.call 89 [.t 93,.t 99]) 89 true,.P 101 89 100,.M 81 101]) (.cond (.t 81) (.v [.F 102 4 3,.l 103 4 3 1,.o 104 (.idxa 4 (.t 103) (.i 0)),.DT 105 104 4,.S 2 0 4 105,.f 3 true]) (.r [.F 107 1 1,.l 108 1 1 1,.o 109 (.bin .eql (.t 108) (.c (.str [114,101,97,100]))),.M 110 109,.g 111 (.ldf 4 0 4 true) 110 true,.g 112 (.call 132 [.t 111,.c (.str [115,105,103,110])]) 110 true,.P 113 110 112,.M 106 113] (.i 106 (.v [.F 114 4 3,.l 115 4 3 1,.o 116 (.idxa 4 (.t 115) (.i 0)),.DT 117 116 4,.S 2 0 4 117,.f 3 true])))))))))))))) (.v [.L 118 1 0 4,.S 2 0 4 118,.f 3 false])))
def f243:Qi:=⟨1,119,[.cell 2 4 true,.tmp 3],f243C,false⟩
@[simp] theorem f243B:f243.body=f243C∧f243.res=[.cell 2 4 true,.tmp 3]∧f243.keep=false:=⟨rfl,rfl,rfl⟩
def f244l0:AC:= .seq (.r [.M 15 6,.M 16 0,.N 17 16,.B 18 .lss 15 17] (.x 18 0)) (.seq (.block 1 (.q [.M 21 5,.M 22 0,.M 23 6,.X 24 4 22 23,.DT 25 24 4,.c 26 247 [.t 25],.c 27 248 [.t 21,.t 26],.o 5 (.mvs 27)])) (.q [.M 19 6,.C 20 .add 19 1,.M 6 20]))
def f244r0:AC:= .r [.M 28 5,.c 29 251 [.t 28],.T 7,.S 7 0 4 29] (.seq (.r [.L 30 7 0 4,.c 31 54 [.t 30],.C 32 .neq 31 0] (.i 32 (.v [.o 33 (.mkst zG []),.n (.stn 2 0 4 (.t 33) zT),.I 3 3]))) (.v [.L 34 7 0 4,.S 2 0 4 34,.I 3 0]))
def f244C:AC:= .r [.T 2,.I 3 0] (.seq (.r [.M 8 0,.c 9 245 [],.c 10 246 [.t 8,.t 9],.M 4 10] (.r [.M 11 4,.C 12 .neq 11 0] (.i 12 (.v [.o 13 (.mkst zG []),.M 14 4,.n (.stn 2 0 4 (.t 13) zT),.M 3 14])))) (.r [.Z 5 4] (.seq (.r [.I 6 0] (.block 0 (.loop (f244l0)))) (f244r0))))
def f244:Qi:=⟨1,35,[.cell 2 4 true,.tmp 3],f244C,false⟩
@[simp] theorem f244B:f244.body=f244C∧f244.res=[.cell 2 4 true,.tmp 3]∧f244.keep=false:=⟨rfl,rfl,rfl⟩
def f245C:AC:= .r [.T 0] (.v [.c 1 120 [.c (.str [122,101,114,111]),.c (.sl true 4 [])],.S 0 0 4 1])
def f245:Qi:=⟨0,2,[.cell 0 4 true],f245C,false⟩
def f246l0:AC:= .seq (.r [.M 10 5,.M 11 0,.N 12 11,.B 13 .lss 10 12] (.x 13 0)) (.seq (.block 1 (.r [.M 16 0,.M 17 5,.X 18 4 16 17,.DT 19 18 4,.c 20 54 [.t 19],.M 6 20] (.r [.M 21 6,.C 22 .neq 21 0] (.i 22 (.v [.M 23 6,.M 4 23]))))) (.q [.M 14 5,.C 15 .add 14 1,.M 5 15]))
def f246r0:AC:= .v [.L 24 3 0 4,.c 25 54 [.t 24],.M 4 25]
def f246C:AC:= .r [.b 3 1,.I 4 0] (.seq (.r [.M 7 0,.N 8 7,.C 9 .gtr 8 200] (.i 9 (.v [.I 4 3]))) (.seq (.r [.I 5 0] (.block 0 (.loop (f246l0)))) (f246r0)))
def f246:Qi:=⟨2,26,[.tmp 4],f246C,false⟩
@[simp] theorem f246B:f246.body=f246C∧f246.res=[.tmp 4]∧f246.keep=false:=⟨rfl,rfl,rfl⟩
def f247l0:AC:= .seq (.r [.M 29 4,.F 30 1 3,.l 31 1 3 1,.N 32 31,.B 33 .lss 29 32] (.x 33 0)) (.seq (.block 1 (.q [.M 36 3,.F 37 1 3,.l 38 1 3 1,.M 39 4,.X 40 4 38 39,.DT 41 40 4,.c 42 247 [.t 41],.c 43 248 [.t 36,.t 42],.o 3 (.mvs 43)])) (.q [.M 34 4,.C 35 .add 34 1,.M 4 35]))
def f247r0:AC:= .v [.M 44 3,.o 2 (.mvs 44)]
def f247C:AC:= .r [.b 1 0,.Z 2 4] (.seq (.r [.F 5 1 0,.l 6 1 0 1,.C 7 .eql 6 3,.M 8 7,.g 9 (.fad 1 1) 8 true,.g 10 (.ldf 1 1 1 false) 8 true,.g 11 (.bin .eql (.t 10) (.c (.str [122,101,114,111]))) 8 true,.P 12 8 11,.M 13 12,.g 14 (.fad 1 3) 13 true,.g 15 (.ldf 1 3 1 false) 13 true,.g 16 (.lenl (.t 15)) 13 true,.g 17 (.bin .eql (.t 16) (.i 0)) 13 true,.P 18 13 17] (.i 18 (.v [.Z 2 4]))) (.seq (.r [.F 19 1 0,.l 20 1 0 1,.C 21 .neq 20 3,.M 22 21,.g 23 (.fad 1 1) 22 false,.g 24 (.ldf 1 1 1 false) 22 false,.g 25 (.bin .neq (.t 24) (.c (.str [120,111,114]))) 22 false,.Q 26 22 25] (.i 26 (.v [.L 27 1 0 4,.o 28 (.mksl 4 [.t 27]),.o 2 (.mvs 28)]))) (.r [.Z 3 4] (.seq (.r [.I 4 0] (.block 0 (.loop (f247l0)))) (f247r0)))))
def f247:Qi:=⟨1,45,[.tmp 2],f247C,false⟩
@[simp] theorem f247B:f247.body=f247C∧f247.res=[.tmp 2]∧f247.keep=false:=⟨rfl,rfl,rfl⟩
def f248l0:AC:= .seq (.r [.M 10 6,.M 11 1,.N 12 11,.B 13 .lss 10 12] (.x 13 0)) (.seq (.block 1 (.q [.M 16 5,.M 17 1,.M 18 6,.X 19 4 17 18,.DT 20 19 4,.c 21 249 [.t 16,.t 20],.o 5 (.mvs 21)])) (.q [.M 14 6,.C 15 .add 14 1,.M 6 15]))
def f248r0:AC:= .v [.M 22 5,.o 4 (.mvs 22)]
def f248C:AC:= .r [.Z 4 4] (.r [.o 7 (.mksl 4 []),.M 8 0,.A 9 56 4 7 8,.o 5 (.mvs 9)] (.seq (.r [.I 6 0] (.block 0 (.loop (f248l0)))) (f248r0)))
def f248:Qi:=⟨2,23,[.tmp 4],f248C,false⟩
@[simp] theorem f248B:f248.body=f248C∧f248.res=[.tmp 4]∧f248.keep=false:=⟨rfl,rfl,rfl⟩
def f249l0:AC:= .seq (.r [.M 14 6,.M 15 0,.N 16 15,.B 17 .lss 14 16] (.x 17 0)) (.seq (.block 1 (.seq (.z [.M 20 0,.M 21 6,.X 22 4 20 21,.DT 23 22 4,.L 24 3 0 4,.c 25 89 [.t 23,.t 24],.o 26 (.un .not (.t 25))]) (.i 26 (.q [.o 27 (.mvs 5),.M 28 0,.M 29 6,.X 30 4 28 29,.DT 31 30 4,.o 32 (.mksl 4 [.t 31]),.A 33 56 4 27 32,.o 5 (.mvs 33)])))) (.q [.M 18 6,.C 19 .add 18 1,.M 6 19]))
def f249r0:AC:= .v [.M 34 5,.o 4 (.mvs 34)]
def f249C:AC:= .r [.b 3 1,.Z 4 4] (.seq (.r [.M 7 0,.L 8 3 0 4,.c 9 250 [.t 7,.t 8],.o 10 (.un .not (.t 9))] (.i 10 (.v [.M 11 0,.L 12 3 0 4,.c 13 239 [.t 11,.t 12],.o 4 (.mvs 13)]))) (.r [.Z 5 4] (.seq (.r [.I 6 0] (.block 0 (.loop (f249l0)))) (f249r0))))
def f249:Qi:=⟨2,35,[.tmp 4],f249C,false⟩
@[simp] theorem f249B:f249.body=f249C∧f249.res=[.tmp 4]∧f249.keep=false:=⟨rfl,rfl,rfl⟩
def f250l0:AC:= .seq (.r [.M 6 5,.M 7 0,.N 8 7,.B 9 .lss 6 8] (.x 9 0)) (.seq (.block 1 (.seq (.z [.M 12 0,.M 13 5,.X 14 4 12 13,.DT 15 14 4,.L 16 3 0 4,.c 17 89 [.t 15,.t 16]]) (.i 17 (.v [.f 4 true])))) (.q [.M 10 5,.C 11 .add 10 1,.M 5 11]))
def f250r0:AC:= .v [.f 4 false]
def f250C:AC:= .r [.b 3 1,.f 4 false] (.seq (.r [.I 5 0] (.block 0 (.loop (f250l0)))) (f250r0))
def f250:Qi:=⟨2,18,[.tmp 4],f250C,false⟩
@[simp] theorem f250B:f250.body=f250C∧f250.res=[.tmp 4]∧f250.keep=false:=⟨rfl,rfl,rfl⟩
def f251C:AC:= .r [.T 2] (.seq (.r [.M 3 0,.N 4 3,.C 5 .eql 4 0] (.i 5 (.v [.c 6 120 [.c (.str [122,101,114,111]),.c (.sl true 4 [])],.S 2 0 4 6]))) (.seq (.r [.M 7 0,.N 8 7,.C 9 .eql 8 1] (.i 9 (.v [.M 10 0,.o 11 (.idxa 4 (.t 10) (.i 0)),.DT 12 11 4,.S 2 0 4 12]))) (.v [.o 13 (.mksl 4 []),.M 14 0,.A 15 56 4 13 14,.o 16 (.mkst zT [(0,1,.i 3),(1,1,.c (.str [120,111,114])),(3,1,.t 15)]),.S 2 0 4 16])))
def f251:Qi:=⟨1,17,[.cell 2 4 true],f251C,false⟩
@[simp] theorem f251B:f251.body=f251C∧f251.res=[.cell 2 4 true]∧f251.keep=false:=⟨rfl,rfl,rfl⟩
def f252C:AC:= .r [.b 1 0,.T 2,.I 3 0] (.r [.L 7 1 0 4,.c 8 253 [.t 7],.M 6 8,.E 9 6 0,.E 10 6 1,.o 4 (.mvs 9),.M 5 10] (.seq (.r [.M 11 5,.C 12 .neq 11 0] (.i 12 (.v [.o 13 (.mkst zG []),.M 14 5,.n (.stn 2 0 4 (.t 13) zT),.M 3 14]))) (.v [.M 15 4,.c 16 258 [.t 15],.E 17 16 0,.E 18 16 1,.S 2 0 4 17,.M 3 18])))
def f252:Qi:=⟨1,19,[.cell 2 4 true,.tmp 3],f252C,false⟩
@[simp] theorem f252B:f252.body=f252C∧f252.res=[.cell 2 4 true,.tmp 3]∧f252.keep=false:=⟨rfl,rfl,rfl⟩
def f253C:AC:= .r [.b 1 0,.Z 2 5,.I 3 0] (.seq (.r [.L 6 1 0 4,.c 7 54 [.t 6],.M 4 7] (.r [.M 8 4,.C 9 .neq 8 0] (.i 9 (.v [.M 10 4,.Z 2 5,.M 3 10])))) (.seq (.r [.L 11 1 0 4,.c 12 254 [.t 11],.o 13 (.un .not (.t 12))] (.i 13 (.v [.Z 2 5,.I 3 6]))) (.r [.L 14 1 0 4,.c 15 256 [.c (.sl true 5 []),.t 14,.i 1],.o 5 (.mvs 15)] (.seq (.r [.M 16 5,.N 17 16,.C 18 .gtr 17 200] (.i 18 (.v [.Z 2 5,.I 3 3]))) (.v [.M 19 5,.o 2 (.mvs 19),.I 3 0])))))
def f253:Qi:=⟨1,20,[.tmp 2,.tmp 3],f253C,false⟩
@[simp] theorem f253B:f253.body=f253C∧f253.res=[.tmp 2,.tmp 3]∧f253.keep=false:=⟨rfl,rfl,rfl⟩
def f254l0:AC:= .seq (.r [.M 36 4,.M 37 3,.B 38 .lss 36 37] (.x 38 0)) (.seq (.block 1 (.r [.F 41 1 3,.l 42 1 3 1,.M 43 4,.X 44 4 42 43,.DT 45 44 4,.c 46 254 [.t 45],.o 47 (.un .not (.t 46))] (.i 47 (.v [.f 2 false])))) (.q [.M 39 4,.C 40 .add 39 1,.M 4 40]))
def f254r0:AC:= .v [.f 2 true]
def f254C:AC:= .r [.b 1 0,.f 2 false] (.seq (.r [.L 5 1 0 4,.c 6 255 [.t 5],.o 7 (.un .not (.t 6))] (.i 7 (.v [.f 2 true]))) (.r [.F 8 1 3,.l 9 1 3 1,.N 10 9,.M 3 10] (.seq (.r [.F 11 1 1,.l 12 1 1 1,.o 13 (.bin .eql (.t 12) (.c (.str [109,117,108]))),.M 14 13,.g 15 (.m 3) 14 true,.g 16 (.bin .lss (.t 15) (.i 2)) 14 true,.P 17 14 16,.M 18 17,.g 19 (.fad 1 1) 18 false,.g 20 (.ldf 1 1 1 false) 18 false,.g 21 (.bin .eql (.t 20) (.c (.str [105,110,118]))) 18 false,.g 22 (.m 21) 18 false,.g 23 (.m 3) 22 true,.g 24 (.bin .neq (.t 23) (.i 1)) 22 true,.g 25 (.pick (.t 22) (.t 24) (.c (.bool false))) 18 false,.Q 26 18 25,.M 27 26,.g 28 (.fad 1 1) 27 false,.g 29 (.ldf 1 1 1 false) 27 false,.g 30 (.bin .eql (.t 29) (.c (.str [111,110,101]))) 27 false,.g 31 (.m 30) 27 false,.g 32 (.m 3) 31 true,.g 33 (.bin .neq (.t 32) (.i 0)) 31 true,.g 34 (.pick (.t 31) (.t 33) (.c (.bool false))) 27 false,.Q 35 27 34] (.i 35 (.v [.f 2 false]))) (.seq (.r [.I 4 0] (.block 0 (.loop (f254l0)))) (f254r0)))))
def f254:Qi:=⟨1,48,[.tmp 2],f254C,false⟩
@[simp] theorem f254B:f254.body=f254C∧f254.res=[.tmp 2]∧f254.keep=false:=⟨rfl,rfl,rfl⟩
def f255C:AC:= .r [.b 1 0,.f 2 false] (.v [.F 3 1 0,.l 4 1 0 1,.C 5 .eql 4 3,.M 6 5,.g 7 (.fad 1 1) 6 true,.g 8 (.ldf 1 1 1 false) 6 true,.g 9 (.bin .eql (.t 8) (.c (.str [109,117,108]))) 6 true,.g 10 (.m 9) 6 true,.g 11 (.fad 1 1) 10 false,.g 12 (.ldf 1 1 1 false) 10 false,.g 13 (.bin .eql (.t 12) (.c (.str [105,110,118]))) 10 false,.g 14 (.pick (.t 10) (.c (.bool true)) (.t 13)) 6 true,.g 15 (.m 14) 6 true,.g 16 (.fad 1 1) 15 false,.g 17 (.ldf 1 1 1 false) 15 false,.g 18 (.bin .eql (.t 17) (.c (.str [111,110,101]))) 15 false,.g 19 (.pick (.t 15) (.c (.bool true)) (.t 18)) 6 true,.P 20 6 19,.M 2 20])
def f255:Qi:=⟨1,21,[.tmp 2],f255C,false⟩
@[simp] theorem f255B:f255.body=f255C∧f255.res=[.tmp 2]∧f255.keep=false:=⟨rfl,rfl,rfl⟩
def f256l0:AC:= .seq (.r [.M 20 7,.F 21 4 3,.l 22 4 3 1,.N 23 22,.B 24 .lss 20 23] (.x 24 0)) (.seq (.block 1 (.q [.M 27 0,.F 28 4 3,.l 29 4 3 1,.M 30 7,.X 31 4 29 30,.DT 32 31 4,.M 33 2,.c 34 256 [.t 27,.t 32,.t 33],.o 0 (.mvs 34)])) (.q [.M 25 7,.C 26 .add 25 1,.M 7 26]))
def f256r0:AC:= .v [.M 35 0,.o 6 (.mvs 35)]
def f256C:AC:= .r [.b 4 1,.Z 6 5] (.seq (.r [.L 8 4 0 4,.c 9 255 [.t 8],.o 10 (.un .not (.t 9))] (.i 10 (.v [.M 11 0,.L 12 4 0 4,.M 13 2,.c 14 257 [.t 11,.t 12,.t 13],.o 6 (.mvs 14)]))) (.seq (.r [.F 15 4 1,.l 16 4 1 1,.o 17 (.bin .eql (.t 16) (.c (.str [105,110,118])))] (.i 17 (.q [.M 18 2,.o 19 (.un .neg (.t 18)),.M 2 19]))) (.seq (.r [.I 7 0] (.block 0 (.loop (f256l0)))) (f256r0))))
def f256:Qi:=⟨3,36,[.tmp 6],f256C,false⟩
@[simp] theorem f256B:f256.body=f256C∧f256.res=[.tmp 6]∧f256.keep=false:=⟨rfl,rfl,rfl⟩
def f257l0:AC:= .seq (.r [.M 12 9,.M 13 0,.N 14 13,.B 15 .lss 12 14] (.x 15 0)) (.seq (.block 1 (.seq (.z [.L 18 4 0 4,.M 19 0,.M 20 9,.X 21 5 19 20,.o 22 (.fadr 21 0),.DT 23 22 4,.c 24 90 [.t 18,.t 23],.M 10 24]) (.seq (.r [.M 25 8,.o 26 (.un .not (.t 25)),.M 27 26,.g 28 (.m 10) 27 true,.g 29 (.bin .lss (.t 28) (.i 0)) 27 true,.P 30 27 29] (.i 30 (.r [.o 31 (.mvs 7),.L 32 4 0 4,.M 33 2,.o 34 (.mkst [.int .i64 0,.str [],.int .i64 0,.sl true 4 [],.int .i64 0] [(0,4,.t 32),(4,1,.t 33)]),.o 35 (.mksl 5 [.t 34]),.A 36 64 5 31 35,.o 7 (.mvs 36)] (.q [.f 8 true])))) (.r [.M 37 0,.M 38 9,.X 39 5 37 38,.DT 40 39 5,.o 11 (.alloc [.int .i64 0,.str [],.int .i64 0,.sl true 4 [],.int .i64 0]),.S 11 0 5 40] (.seq (.r [.M 41 10,.C 42 .eql 41 0] (.i 42 (.r [.F 43 11 4,.l 44 11 4 1,.M 45 2,.B 46 .add 44 45,.F 47 11 4,.S 11 4 1 46] (.q [.f 8 true])))) (.r [.F 48 11 4,.l 49 11 4 1,.C 50 .neq 49 0] (.i 50 (.q [.o 51 (.mvs 7),.L 52 11 0 5,.o 53 (.mksl 5 [.t 52]),.A 54 64 5 51 53,.o 7 (.mvs 54)])))))))) (.q [.M 16 9,.C 17 .add 16 1,.M 9 17]))
def f257r0:AC:= .seq (.r [.M 55 8,.o 56 (.un .not (.t 55))] (.i 56 (.q [.o 57 (.mvs 7),.L 58 4 0 4,.M 59 2,.o 60 (.mkst [.int .i64 0,.str [],.int .i64 0,.sl true 4 [],.int .i64 0] [(0,4,.t 58),(4,1,.t 59)]),.o 61 (.mksl 5 [.t 60]),.A 62 64 5 57 61,.o 7 (.mvs 62)]))) (.v [.M 63 7,.o 6 (.mvs 63)])
def f257C:AC:= .r [.b 4 1,.Z 6 5] (.r [.Z 7 5] (.r [.f 8 false] (.seq (.r [.I 9 0] (.block 0 (.loop (f257l0)))) (f257r0))))
def f257:Qi:=⟨3,64,[.tmp 6],f257C,false⟩
@[simp] theorem f257B:f257.body=f257C∧f257.res=[.tmp 6]∧f257.keep=false:=⟨rfl,rfl,rfl⟩
def f258C:AC:= .r [.T 2,.I 3 0] (.seq (.r [.M 8 0,.c 9 259 [.t 8],.M 4 9] (.r [.M 10 4,.C 11 .neq 10 0] (.i 11 (.v [.o 12 (.mkst zG []),.M 13 4,.n (.stn 2 0 4 (.t 12) zT),.M 3 13])))) (.r [.M 14 0,.c 15 260 [.t 14],.o 5 (.mvs 15)] (.seq (.r [.M 16 5,.N 17 16,.C 18 .gtr 17 8] (.i 18 (.v [.o 19 (.mkst zG []),.n (.stn 2 0 4 (.t 19) zT),.I 3 3]))) (.r [.M 20 5,.c 21 120 [.c (.str [109,117,108]),.t 20],.T 6,.S 6 0 4 21] (.seq (.r [.M 22 5,.N 23 22,.C 24 .eql 23 0] (.i 24 (.q [.c 25 120 [.c (.str [111,110,101]),.c (.sl true 4 [])],.S 6 0 4 25]))) (.seq (.r [.M 26 5,.N 27 26,.C 28 .eql 27 1] (.i 28 (.q [.M 29 5,.o 30 (.idxa 4 (.t 29) (.i 0)),.DT 31 30 4,.S 6 0 4 31]))) (.seq (.r [.L 32 6 0 4,.c 33 54 [.t 32],.M 7 33] (.r [.M 34 7,.C 35 .neq 34 0] (.i 35 (.v [.o 36 (.mkst zG []),.M 37 7,.n (.stn 2 0 4 (.t 36) zT),.M 3 37])))) (.v [.L 38 6 0 4,.S 2 0 4 38,.I 3 0]))))))))
def f258:Qi:=⟨1,39,[.cell 2 4 true,.tmp 3],f258C,false⟩
@[simp] theorem f258B:f258.body=f258C∧f258.res=[.cell 2 4 true,.tmp 3]∧f258.keep=false:=⟨rfl,rfl,rfl⟩
def f259l0:AC:= .seq (.r [.M 8 3,.M 9 0,.N 10 9,.B 11 .lss 8 10] (.x 11 0)) (.seq (.block 1 (.seq (.r [.M 14 0,.M 15 3,.X 16 5 14 15,.o 17 (.fadr 16 0),.DT 18 17 4,.c 19 54 [.t 18],.M 4 19] (.r [.M 20 4,.C 21 .neq 20 0] (.i 21 (.v [.M 22 4,.M 2 22])))) (.seq (.r [.M 23 0,.M 24 3,.X 25 5 23 24,.o 26 (.fadr 25 0),.DT 27 26 4,.c 28 255 [.t 27]] (.i 28 (.v [.I 2 1]))) (.seq (.r [.M 29 0,.M 30 3,.X 31 5 29 30,.o 32 (.fadr 31 4),.DF 33 32 1,.C 34 .eql 33 0,.M 35 34,.g 36 (.m 0) 35 false,.g 37 (.m 3) 35 false,.g 38 (.idxa 5 (.t 36) (.t 37)) 35 false,.g 39 (.fadr 38 4) 35 false,.g 40 (.ld 39 1 false) 35 false,.g 41 (.bin .lss (.t 40) (.i (-1000))) 35 false,.Q 42 35 41,.M 43 42,.g 44 (.m 0) 43 false,.g 45 (.m 3) 43 false,.g 46 (.idxa 5 (.t 44) (.t 45)) 43 false,.g 47 (.fadr 46 4) 43 false,.g 48 (.ld 47 1 false) 43 false,.g 49 (.bin .gtr (.t 48) (.i 1000)) 43 false,.Q 50 43 49] (.i 50 (.v [.I 2 7]))) (.seq (.z [.M 51 3,.C 52 .gtr 51 0,.M 53 52,.g 54 (.m 0) 53 true,.g 55 (.m 3) 53 true,.g 56 (.bin .sub (.t 55) (.i 1)) 53 true,.g 57 (.idxa 5 (.t 54) (.t 56)) 53 true,.g 58 (.fadr 57 0) 53 true,.g 59 (.ld 58 4 true) 53 true,.g 60 (.m 0) 53 true,.g 61 (.m 3) 53 true,.g 62 (.idxa 5 (.t 60) (.t 61)) 53 true,.g 63 (.fadr 62 0) 53 true,.g 64 (.ld 63 4 true) 53 true,.g 65 (.call 90 [.t 59,.t 64]) 53 true,.g 66 (.bin .geq (.t 65) (.i 0)) 53 true,.P 67 53 66]) (.i 67 (.v [.I 2 5]))))))) (.q [.M 12 3,.C 13 .add 12 1,.M 3 13]))
def f259r0:AC:= .v [.I 2 0]
def f259C:AC:= .r [.I 2 0] (.seq (.r [.M 5 0,.N 6 5,.C 7 .gtr 6 200] (.i 7 (.v [.I 2 3]))) (.seq (.r [.I 3 0] (.block 0 (.loop (f259l0)))) (f259r0)))
def f259:Qi:=⟨1,68,[.tmp 2],f259C,false⟩
@[simp] theorem f259B:f259.body=f259C∧f259.res=[.tmp 2]∧f259.keep=false:=⟨rfl,rfl,rfl⟩
def f260l0:AC:= .seq (.r [.M 14 5,.M 15 0,.M 16 4,.X 17 5 15 16,.o 18 (.fadr 17 4),.DF 19 18 1,.B 20 .lss 14 19,.M 21 20,.g 22 (.m 3) 21 true,.g 23 (.lenl (.t 22)) 21 true,.g 24 (.bin .lss (.t 23) (.i 9)) 21 true,.P 25 21 24] (.x 25 2)) (.seq (.block 3 (.q [.o 28 (.mvs 3),.M 29 0,.M 30 4,.X 31 5 29 30,.o 32 (.fadr 31 0),.DT 33 32 4,.o 34 (.mksl 4 [.t 33]),.A 35 56 4 28 34,.o 3 (.mvs 35)])) (.q [.M 26 5,.C 27 .add 26 1,.M 5 27]))
def f260r0:AC:= .q [.M 12 4,.C 13 .add 12 1,.M 4 13]
def f260l1:AC:= .seq (.r [.M 8 4,.M 9 0,.N 10 9,.B 11 .lss 8 10] (.x 11 0)) (.seq (.block 1 (.r [.I 5 0] (.block 2 (.loop (f260l0))))) (f260r0))
def f260l2:AC:= .seq (.r [.M 42 7,.M 43 0,.M 44 6,.X 45 5 43 44,.o 46 (.fadr 45 4),.DF 47 46 1,.o 48 (.un .neg (.t 47)),.B 49 .lss 42 48,.M 50 49,.g 51 (.m 3) 50 true,.g 52 (.lenl (.t 51)) 50 true,.g 53 (.bin .lss (.t 52) (.i 9)) 50 true,.P 54 50 53] (.x 54 6)) (.seq (.block 7 (.q [.o 57 (.mvs 3),.M 58 0,.M 59 6,.X 60 5 58 59,.o 61 (.fadr 60 0),.DT 62 61 4,.o 63 (.mksl 4 [.t 62]),.c 64 120 [.c (.str [105,110,118]),.t 63],.o 65 (.mksl 4 [.t 64]),.A 66 56 4 57 65,.o 3 (.mvs 66)])) (.q [.M 55 7,.C 56 .add 55 1,.M 7 56]))
def f260r1:AC:= .q [.M 40 6,.C 41 .add 40 1,.M 6 41]
def f260l3:AC:= .seq (.r [.M 36 6,.M 37 0,.N 38 37,.B 39 .lss 36 38] (.x 39 4)) (.seq (.block 5 (.r [.I 7 0] (.block 6 (.loop (f260l2))))) (f260r1))
def f260r2:AC:= .v [.M 67 3,.o 2 (.mvs 67)]
def f260r3:AC:= .seq (.r [.I 6 0] (.block 4 (.loop (f260l3)))) (f260r2)
def f260C:AC:= .r [.Z 2 4] (.r [.Z 3 4] (.seq (.r [.I 4 0] (.block 0 (.loop (f260l1)))) (f260r3)))
def f260:Qi:=⟨1,68,[.tmp 2],f260C,false⟩
@[simp] theorem f260B:f260.body=f260C∧f260.res=[.tmp 2]∧f260.keep=false:=⟨rfl,rfl,rfl⟩
def f261C:AC:= .r [.b 2 0,.b 3 1,.T 4,.I 5 0] (.r [.L 12 3 0 4,.c 13 253 [.t 12],.M 11 13,.E 14 11 0,.E 15 11 1,.o 6 (.mvs 14),.M 7 15] (.seq (.r [.M 16 7,.C 17 .neq 16 0] (.i 17 (.v [.o 18 (.mkst zG []),.M 19 7,.n (.stn 4 0 4 (.t 18) zT),.M 5 19]))) (.seq (.r [.L 20 2 0 4,.c 21 132 [.t 20,.c (.str [101,120,112])]] (.i 21 (.r [.F 23 2 3,.l 24 2 3 1,.o 25 (.idxa 4 (.t 24) (.i 1)),.DT 26 25 4,.c 27 253 [.t 26],.M 22 27,.E 28 22 0,.E 29 22 1,.o 8 (.mvs 28),.M 9 29] (.seq (.r [.M 30 9,.C 31 .neq 30 0] (.i 31 (.v [.o 32 (.mkst zG []),.M 33 9,.n (.stn 4 0 4 (.t 32) zT),.M 5 33]))) (.seq (.r [.M 35 8,.M 36 6,.c 37 262 [.t 35,.t 36],.M 34 37,.E 38 34 0,.E 39 34 1,.o 6 (.mvs 38),.M 9 39] (.r [.M 40 9,.C 41 .neq 40 0] (.i 41 (.v [.o 42 (.mkst zG []),.M 43 9,.n (.stn 4 0 4 (.t 42) zT),.M 5 43])))) (.q [.F 44 2 3,.l 45 2 3 1,.o 46 (.idxa 4 (.t 45) (.i 0)),.DT 47 46 4,.S 2 0 4 47])))))) (.seq (.r [.M 48 6,.N 49 48,.C 50 .eql 49 0] (.i 50 (.v [.L 51 2 0 4,.S 4 0 4 51,.I 5 0]))) (.r [.M 53 6,.c 54 258 [.t 53],.M 52 54,.E 55 52 0,.E 56 52 1,.T 10,.S 10 0 4 55,.M 7 56] (.seq (.r [.M 57 7,.C 58 .neq 57 0] (.i 58 (.v [.o 59 (.mkst zG []),.M 60 7,.n (.stn 4 0 4 (.t 59) zT),.M 5 60]))) (.v [.L 61 2 0 4,.L 62 10 0 4,.o 63 (.mksl 4 [.t 61,.t 62]),.c 64 120 [.c (.str [101,120,112]),.t 63],.S 4 0 4 64,.I 5 0])))))))
def f261:Qi:=⟨2,65,[.cell 4 4 true,.tmp 5],f261C,false⟩
@[simp] theorem f261B:f261.body=f261C∧f261.res=[.cell 4 4 true,.tmp 5]∧f261.keep=false:=⟨rfl,rfl,rfl⟩
def f262l0:AC:= .seq (.r [.M 24 9,.M 25 1,.N 26 25,.B 27 .lss 24 26] (.x 27 0)) (.seq (.block 1 (.z [.M 30 8,.M 31 1,.M 32 9,.X 33 5 31 32,.o 34 (.fadr 33 0),.DT 35 34 4,.M 36 1,.M 37 9,.X 38 5 36 37,.o 39 (.fadr 38 4),.DF 40 39 1,.c 41 257 [.t 30,.t 35,.t 40],.o 8 (.mvs 41)])) (.q [.M 28 9,.C 29 .add 28 1,.M 9 29]))
def f262r0:AC:= .seq (.r [.M 42 8,.c 43 263 [.t 42],.M 10 43] (.r [.M 44 10,.C 45 .neq 44 0] (.i 45 (.v [.M 46 10,.Z 4 5,.M 5 46])))) (.v [.M 47 8,.o 4 (.mvs 47),.I 5 0])
def f262C:AC:= .r [.Z 4 5,.I 5 0] (.seq (.r [.M 11 0,.c 12 259 [.t 11],.M 6 12] (.r [.M 13 6,.C 14 .neq 13 0] (.i 14 (.v [.M 15 6,.Z 4 5,.M 5 15])))) (.seq (.r [.M 16 1,.c 17 259 [.t 16],.M 7 17] (.r [.M 18 7,.C 19 .neq 18 0] (.i 19 (.v [.M 20 7,.Z 4 5,.M 5 20])))) (.r [.o 21 (.mksl 5 []),.M 22 0,.A 23 64 5 21 22,.o 8 (.mvs 23)] (.seq (.r [.I 9 0] (.block 0 (.loop (f262l0)))) (f262r0)))))
def f262:Qi:=⟨2,48,[.tmp 4,.tmp 5],f262C,false⟩
@[simp] theorem f262B:f262.body=f262C∧f262.res=[.tmp 4,.tmp 5]∧f262.keep=false:=⟨rfl,rfl,rfl⟩
def f263l0:AC:= .seq (.r [.M 4 3,.M 5 0,.N 6 5,.B 7 .lss 4 6] (.x 7 0)) (.seq (.block 1 (.r [.M 10 0,.M 11 3,.X 12 5 10 11,.o 13 (.fadr 12 4),.DF 14 13 1,.C 15 .lss 14 (-1000),.M 16 15,.g 17 (.m 0) 16 false,.g 18 (.m 3) 16 false,.g 19 (.idxa 5 (.t 17) (.t 18)) 16 false,.g 20 (.fadr 19 4) 16 false,.g 21 (.ld 20 1 false) 16 false,.g 22 (.bin .gtr (.t 21) (.i 1000)) 16 false,.Q 23 16 22] (.i 23 (.v [.I 2 7])))) (.q [.M 8 3,.C 9 .add 8 1,.M 3 9]))
def f263r0:AC:= .seq (.r [.M 24 0,.N 25 24,.C 26 .gtr 25 200] (.i 26 (.v [.I 2 3]))) (.v [.I 2 0])
def f263C:AC:= .r [.I 2 0] (.seq (.r [.I 3 0] (.block 0 (.loop (f263l0)))) (f263r0))
def f263:Qi:=⟨1,27,[.tmp 2],f263C,false⟩
@[simp] theorem f263B:f263.body=f263C∧f263.res=[.tmp 2]∧f263.keep=false:=⟨rfl,rfl,rfl⟩
def f281l0:AC:= .seq (.r [.M 7 6,.M 8 0,.N 9 8,.B 10 .lss 7 9,.M 11 10,.g 12 (.m 6) 11 true,.g 13 (.bin .lss (.t 12) (.i 8)) 11 true,.P 14 11 13] (.x 14 0)) (.seq (.block 1 (.q [.o 17 (.mvs 5),.M 18 0,.M 19 6,.X 20 1 18 19,.DF 21 20 1,.M 22 1,.c 23 282 [.t 21,.t 22],.o 24 (.mksl 4 [.t 23]),.A 25 56 4 17 24,.o 5 (.mvs 25)])) (.q [.M 15 6,.C 16 .add 15 1,.M 6 16]))
def f281r0:AC:= .v [.M 26 5,.o 4 (.mvs 26)]
def f281C:AC:= .r [.Z 4 4] (.r [.Z 5 4] (.seq (.r [.I 6 0] (.block 0 (.loop (f281l0)))) (f281r0)))
def f281:Qi:=⟨2,27,[.tmp 4],f281C,false⟩
@[simp] theorem f281B:f281.body=f281C∧f281.res=[.tmp 4]∧f281.keep=false:=⟨rfl,rfl,rfl⟩
def f282C:AC:= .r [.T 4] (.r [.M 10 0,.M 11 1,.c 12 283 [.t 10,.i 0,.i 1,.t 11],.M 9 12,.E 13 9 0,.E 14 9 1,.T 5,.S 5 0 4 13,.M 6 14] (.r [.L 16 5 0 4,.c 17 241 [.t 16],.M 15 17,.E 18 15 0,.E 19 15 1,.T 7,.S 7 0 4 18,.M 8 19] (.seq (.r [.M 20 8,.C 21 .neq 20 0,.M 22 21,.g 23 (.ldf 7 0 4 true) 22 false,.g 24 (.call 240 [.t 23]) 22 false,.g 25 (.un .not (.t 24)) 22 false,.Q 26 22 25] (.i 26 (.v [.c 27 284 [],.o 28 (.idxa 4 (.t 27) (.i 0)),.DT 29 28 4,.S 4 0 4 29]))) (.v [.L 30 7 0 4,.S 4 0 4 30]))))
def f282:Qi:=⟨2,31,[.cell 4 4 true],f282C,false⟩
@[simp] theorem f282B:f282.body=f282C∧f282.res=[.cell 4 4 true]∧f282.keep=false:=⟨rfl,rfl,rfl⟩
def f283C:AC:= .r [.T 8,.I 9 0] (.r [.I 10 0] (.seq (.r [.M 15 1,.M 16 0,.N 17 16,.B 18 .lss 15 17] (.i 18 (.q [.M 19 0,.M 20 1,.X 21 1 19 20,.DF 22 21 1,.o 23 (.conv .i64 (.t 22)),.M 10 23]))) (.r [.c 24 284 [],.o 11 (.mvs 24)] (.seq (.r [.M 25 2,.C 26 .geq 25 4,.M 27 26,.g 28 (.m 10) 27 false,.g 29 (.bin .rem (.t 28) (.i 3)) 27 false,.g 30 (.bin .eql (.t 29) (.i 0)) 27 false,.Q 31 27 30] (.i 31 (.v [.M 32 11,.M 33 10,.C 34 .quo 33 3,.M 35 11,.N 36 35,.B 37 .rem 34 36,.X 38 4 32 37,.DT 39 38 4,.M 40 1,.C 41 .add 40 1,.S 8 0 4 39,.M 9 41]))) (.r [.M 42 10,.C 43 .quo 42 3,.C 44 .rem 43 11,.M 10 44] (.r [.M 46 0,.M 47 1,.C 48 .add 47 1,.M 49 2,.C 50 .add 49 1,.M 51 3,.c 52 283 [.t 46,.t 48,.t 50,.t 51],.M 45 52,.E 53 45 0,.E 54 45 1,.T 12,.S 12 0 4 53,.M 13 54] (.seq (.block 0 (.r [.M 56 10,.C 57 .eql 56 0,.M 55 57] (.cond (.t 55) (.v [.L 58 12 0 4,.o 59 (.mksl 4 [.t 58]),.c 60 120 [.c (.str [104,97,115,104]),.t 59],.M 61 13,.S 8 0 4 60,.M 9 61]) (.r [.M 63 10,.C 64 .eql 63 1,.M 62 64] (.cond (.t 62) (.v [.L 65 12 0 4,.o 66 (.mksl 4 [.t 65]),.c 67 120 [.c (.str [112,107]),.t 66],.M 68 13,.S 8 0 4 67,.M 9 68]) (.r [.M 70 10,.C 71 .eql 70 2,.M 72 71,.g 73 (.m 3) 72 true,.g 74 (.un .not (.t 73)) 72 true,.P 75 72 74,.M 69 75] (.i 69 (.v [.L 76 12 0 4,.o 77 (.mksl 4 [.t 76]),.c 78 120 [.c (.str [105,110,118]),.t 77],.M 79 13,.S 8 0 4 78,.M 9 79])))))))) (.r [.M 81 0,.M 82 13,.M 83 2,.C 84 .add 83 1,.M 85 3,.c 86 283 [.t 81,.t 82,.t 84,.t 85],.M 80 86,.E 87 80 0,.E 88 80 1,.T 14,.S 14 0 4 87,.M 13 88] (.seq (.block 1 (.r [.M 90 10,.C 91 .eql 90 3,.M 92 91,.g 93 (.m 10) 92 false,.g 94 (.bin .eql (.t 93) (.i 4)) 92 false,.Q 95 92 94,.M 89 95] (.cond (.t 89) (.v [.L 96 12 0 4,.L 97 14 0 4,.o 98 (.mksl 4 [.t 96,.t 97]),.c 99 120 [.c (.str [101,110,99]),.t 98],.M 100 13,.S 8 0 4 99,.M 9 100]) (.r [.M 102 10,.C 103 .eql 102 5,.M 101 103] (.cond (.t 101) (.seq (.z [.L 104 12 0 4,.L 105 14 0 4,.o 106 (.mksl 4 [.t 105]),.c 107 120 [.c (.str [112,107]),.t 106],.o 108 (.mksl 4 [.t 104,.t 107]),.c 109 120 [.c (.str [97,101,110,99]),.t 108],.M 110 13,.S 8 0 4 109,.M 9 110]) (.ret)) (.r [.M 112 10,.C 113 .eql 112 6,.M 111 113] (.cond (.t 111) (.v [.L 114 12 0 4,.L 115 14 0 4,.o 116 (.mksl 4 [.t 114,.t 115]),.c 117 120 [.c (.str [115,105,103,110]),.t 116],.M 118 13,.S 8 0 4 117,.M 9 118]) (.r [.M 120 10,.C 121 .eql 120 7,.M 122 121,.g 123 (.m 3) 122 true,.g 124 (.un .not (.t 123)) 122 true,.P 125 122 124,.M 119 125] (.cond (.t 119) (.v [.L 126 12 0 4,.L 127 14 0 4,.o 128 (.mksl 4 [.t 126,.t 127]),.c 129 120 [.c (.str [120,111,114]),.t 128],.M 130 13,.S 8 0 4 129,.M 9 130]) (.r [.M 132 10,.C 133 .eql 132 8,.M 134 133,.g 135 (.m 3) 134 true,.g 136 (.un .not (.t 135)) 134 true,.P 137 134 136,.M 131 137] (.cond (.t 131) (.v [.L 138 12 0 4,.L 139 14 0 4,.o 140 (.mksl 4 [.t 138,.t 139]),.c 141 120 [.c (.str [101,120,112]),.t 140],.M 142 13,.S 8 0 4 141,.M 9 142]) (.r [.M 144 10,.C 145 .eql 144 9,.M 146 145,.g 147 (.m 3) 146 true,.g 148 (.un .not (.t 147)) 146 true,.P 149 146 148,.M 143 149] (.i 143 (.v [.L 150 12 0 4,.L 151 14 0 4,.o 152 (.mksl 4 [.t 150,.t 151]),.c 153 120 [.c (.str [109,117,108]),.t 152],.M 154 13,.S 8 0 4 153,.M 9 154])))))))))))))) (.v [.L 155 12 0 4,.L 156 14 0 4,.o 157 (.mksl 4 [.t 155,.t 156]),.c 158 120 [.c (.str [112,97,105,114]),.t 157],.M 159 13,.S 8 0 4 158,.M 9 159]))))))))))
def f283:Qi:=⟨4,160,[.cell 8 4 true,.tmp 9],f283C,false⟩
@[simp] theorem f283B:f283.body=f283C∧f283.res=[.cell 8 4 true,.tmp 9]∧f283.keep=false:=⟨rfl,rfl,rfl⟩
def f284C:AC:= .r [.Z 0 4] (.r [.c 3 107 [.c (.str [97]),.i 1],.c 4 107 [.c (.str [98]),.i 1],.T 1,.T 2,.S 1 0 4 3,.S 2 0 4 4] (.seq (.z [.c 5 107 [.c (.str [110,97]),.i 2],.c 6 107 [.c (.str [110,98]),.i 2],.c 7 107 [.c (.str [107]),.i 3],.c 8 107 [.c (.str [108]),.i 3],.c 9 107 [.c (.str [103]),.i 4],.L 10 1 0 4,.c 11 107 [.c (.str [104,105]),.i 5],.c 12 107 [.c (.str [100]),.i 0],.L 13 1 0 4,.o 14 (.mksl 4 [.t 13]),.c 15 120 [.c (.str [115,107]),.t 14],.L 16 1 0 4,.L 17 2 0 4,.o 18 (.mksl 4 [.t 16,.t 17]),.c 19 120 [.c (.str [115,104,107]),.t 18],.o 20 (.mksl 4 [.t 5,.t 6,.t 7,.t 8,.t 9,.t 10,.t 11,.t 12,.t 15,.t 19]),.o 0 (.mvs 20)]) (.ret)))
def f284:Qi:=⟨0,21,[.tmp 0],f284C,false⟩
@[simp] theorem f284B:f284.body=f284C∧f284.res=[.tmp 0]∧f284.keep=false:=⟨rfl,rfl,rfl⟩
def f363l0:AC:= .r [.B 10 .lss 9 8] (.seq (.x 10 0) (.seq (.block 1 (.r [.M 11 9,.M 4 11] (.q [.M 12 3,.M 13 4,.M 14 3,.M 15 4,.X 16 5 14 15,.o 17 (.fadr 16 4),.o 18 (.ldg 17 1 false),.o 19 (.un .neg (.t 18)),.X 20 5 12 13,.o 21 (.fadr 20 4),.n (.st 21 1 (.t 19))]))) (.q [.C 22 .add 9 1,.M 9 22])))
def f363r0:AC:= .v [.M 23 3,.o 2 (.frz 23 5)]
def f363C:AC:= .r [.Z 2 5] (.r [.M 5 0,.c 6 201 [.t 5],.M 3 6] (.seq (.r [.M 7 3,.N 8 7,.I 9 0] (.block 0 (.loop (f363l0)))) (f363r0)))
def f363:Qi:=⟨1,24,[.tmp 2],f363C,false⟩
def f373l0:AC:= .r [.B 17 .lss 16 15] (.seq (.x 17 2) (.seq (.block 3 (.r [.X 18 5 14 16,.DT 19 18 5,.o 7 (.alloc [.int .i64 0,.str [],.int .i64 0,.sl true 4 [],.int .i64 0]),.S 7 0 5 19] (.q [.M 20 3,.F 21 7 0,.L 22 7 0 4,.o 23 (.mksl 4 [.t 22]),.o 24 (.appM 56 4 (.t 20) (.t 23)),.M 3 24]))) (.q [.C 25 .add 16 1,.M 16 25])))
def f373r0:AC:= .q [.C 26 .add 10 1,.M 10 26]
def f373l1:AC:= .r [.B 11 .lss 10 9] (.seq (.x 11 0) (.seq (.block 1 (.r [.X 12 1 8 10,.DF 13 12 1,.o 5 (.mvs 13)] (.r [.M 14 5,.N 15 14,.I 16 0] (.block 2 (.loop (f373l0)))))) (f373r0)))
def f373r1:AC:= .r [.M 27 3,.c 28 170 [.t 27,.c (.fn 30 [])]] (.v [.M 29 3,.c 30 497 [.t 29,.c (.fn 375 [])],.o 2 (.mvs 30)])
def f373C:AC:= .r [.Z 2 4] (.r [.o 3 (.mov (.c (.gs 0 0 0 0)))] (.seq (.r [.M 8 0,.N 9 8,.I 10 0] (.block 0 (.loop (f373l1)))) (f373r1)))
def f373:Qi:=⟨1,31,[.tmp 2],f373C,false⟩
@[simp] theorem f373B:f373.body=f373C∧f373.res=[.tmp 2]∧f373.keep=false:=⟨rfl,rfl,rfl⟩
def f375C:AC:= .r [.b 2 0,.b 3 1,.f 4 false] (.v [.L 5 2 0 4,.L 6 3 0 4,.c 7 30 [.t 5,.t 6],.C 8 .eql 7 0,.M 4 8])
def f375:Qi:=⟨2,9,[.tmp 4],f375C,false⟩
@[simp] theorem f375B:f375.body=f375C∧f375.res=[.tmp 4]∧f375.keep=false:=⟨rfl,rfl,rfl⟩
def f378l0:AC:= .seq (.r [.M 15 9,.M 16 10,.B 17 .lss 15 16] (.x 17 0)) (.block 1 (.r [.M 18 9,.M 19 10,.B 20 .add 18 19,.o 21 (.conv .u64 (.t 20)),.o 22 (.bin .shr (.t 21) (.c (.int .u64 1))),.o 23 (.conv .i64 (.t 22)),.M 11 23] (.seq (.z [.M 24 2,.M 25 0,.M 26 11,.X 27 4 25 26,.DT 28 27 4,.L 29 4 0 4,.o 30 (.callv (.t 24) [.t 28,.t 29]),.C 31 .lss 30 0]) (.cond (.t 31) (.q [.M 32 11,.C 33 .add 32 1,.M 9 33]) (.q [.M 34 11,.M 10 34])))))
def f378r0:AC:= .seq (.z [.M 35 9,.M 36 9,.M 37 8,.B 38 .lss 36 37,.M 39 38,.g 40 (.m 2) 39 true,.g 41 (.m 0) 39 true,.g 42 (.m 9) 39 true,.g 43 (.idxa 4 (.t 41) (.t 42)) 39 true,.g 44 (.ld 43 4 true) 39 true,.g 45 (.ldf 4 0 4 true) 39 true,.g 46 (.callv (.t 40) [.t 44,.t 45]) 39 true,.g 47 (.bin .eql (.t 46) (.i 0)) 39 true,.P 48 39 47,.M 6 35,.M 7 48]) (.ret)
def f378C:AC:= .r [.b 4 1,.I 6 0,.f 7 false] (.r [.M 12 0,.N 13 12,.M 8 13] (.r [.M 14 8,.I 9 0,.M 10 14] (.seq (.block 0 (.loop (f378l0))) (f378r0))))
def f378:Qi:=⟨3,49,[.tmp 6,.tmp 7],f378C,false⟩
@[simp] theorem f378B:f378.body=f378C∧f378.res=[.tmp 6,.tmp 7]∧f378.keep=false:=⟨rfl,rfl,rfl⟩
def f418C:AC:= .r [.b 1 0,.T 2,.I 3 0] (.seq (.r [.L 5 1 0 4,.c 6 41 [.t 5],.M 4 6] (.r [.M 7 4,.C 8 .neq 7 0] (.i 8 (.v [.o 9 (.mkst zG []),.M 10 4,.n (.stn 2 0 4 (.t 9) zT),.M 3 10])))) (.seq (.block 0 (.r [.L 12 1 0 4,.c 13 71 [.t 12,.c (.str [101,110,99])],.M 11 13] (.cond (.t 11) (.v [.F 14 1 3,.l 15 1 3 1,.o 16 (.idxa 4 (.t 15) (.i 1)),.DT 17 16 4,.c 18 46 [.t 17],.S 2 0 4 18,.I 3 0]) (.r [.L 20 1 0 4,.c 21 71 [.t 20,.c (.str [97,101,110,99])],.o 22 (.un .not (.t 21)),.M 19 22] (.cond (.t 19) (.v [.o 23 (.mkst zG []),.n (.stn 2 0 4 (.t 23) zT),.I 3 10]) (.r [.F 25 1 3,.l 26 1 3 1,.o 27 (.idxa 4 (.t 26) (.i 1)),.DT 28 27 4,.c 29 71 [.t 28,.c (.str [112,107])],.o 30 (.un .not (.t 29)),.M 24 30] (.i 24 (.v [.o 31 (.mkst zG []),.n (.stn 2 0 4 (.t 31) zT),.I 3 4])))))))) (.v [.F 32 1 3,.l 33 1 3 1,.o 34 (.idxa 4 (.t 33) (.i 1)),.o 35 (.fadr 34 3),.DF 36 35 1,.o 37 (.idxa 4 (.t 36) (.i 0)),.DT 38 37 4,.c 39 46 [.t 38],.S 2 0 4 39,.I 3 0])))
def f418:Qi:=⟨1,40,[.cell 2 4 true,.tmp 3],f418C,false⟩
@[simp] theorem f418B:f418.body=f418C∧f418.res=[.cell 2 4 true,.tmp 3]∧f418.keep=false:=⟨rfl,rfl,rfl⟩
def f497l0:AC:= .seq (.r [.M 32 7,.M 33 6,.N 34 33,.B 35 .lss 32 34] (.x 35 2)) (.seq (.block 3 (.seq (.z [.M 38 1,.M 39 6,.M 40 7,.X 41 4 39 40,.o 42 (.ldg 41 4 true),.M 43 6,.M 44 7,.C 45 .sub 44 1,.X 46 4 43 45,.o 47 (.ldg 46 4 true),.o 48 (.callv (.t 38) [.t 42,.t 47]),.o 49 (.un .not (.t 48))]) (.i 49 (.r [.M 50 0,.M 51 5,.M 52 6,.M 53 7,.X 54 4 52 53,.o 55 (.ldg 54 4 true),.X 56 4 50 51,.n (.st 56 4 (.t 55))] (.q [.M 57 5,.C 58 .add 57 1,.M 5 58]))))) (.q [.M 36 7,.C 37 .add 36 1,.M 7 37]))
def f497r0:AC:= .r [.M 59 0,.M 60 5,.o 61 (.slcl 4 (.t 59) (some (.t 60)) none),.n (.clr 4 (.t 61))] (.v [.M 62 0,.M 63 5,.o 64 (.slcl 4 (.t 62) none (some (.t 63))),.o 4 (.frz 64 4)])
def f497r1:AC:= .q [.M 16 5,.C 17 .add 16 1,.M 5 17]
def f497l1:AC:= .seq (.r [.M 12 5,.M 13 0,.N 14 13,.B 15 .lss 12 14] (.x 15 0)) (.seq (.block 1 (.seq (.z [.M 18 1,.M 19 0,.M 20 5,.X 21 4 19 20,.o 22 (.ldg 21 4 true),.M 23 0,.M 24 5,.C 25 .sub 24 1,.X 26 4 23 25,.o 27 (.ldg 26 4 true),.o 28 (.callv (.t 18) [.t 22,.t 27])]) (.i 28 (.r [.M 29 0,.M 30 5,.o 31 (.slcl 4 (.t 29) (some (.t 30)) none),.M 6 31] (.seq (.r [.I 7 1] (.block 2 (.loop (f497l0)))) (f497r0)))))) (f497r1))
def f497r2:AC:= .v [.M 65 0,.o 4 (.frz 65 4)]
def f497C:AC:= .r [.Z 4 4] (.seq (.r [.M 8 0,.N 9 8,.C 10 .lss 9 2] (.i 10 (.v [.M 11 0,.o 4 (.frz 11 4)]))) (.seq (.r [.I 5 1] (.block 0 (.loop (f497l1)))) (f497r2)))
def f497:Qi:=⟨2,66,[.tmp 4],f497C,false⟩
@[simp] theorem f497B:f497.body=f497C∧f497.res=[.tmp 4]∧f497.keep=false:=⟨rfl,rfl,rfl⟩
def f511l0:AC:= .r [.B 9 .lss 8 7] (.seq (.x 9 0) (.seq (.block 1 (.r [.X 10 4 6 8,.DT 11 10 4,.T 5,.S 5 0 4 11] (.q [.L 12 5 0 4,.o 13 (.mkfn 512 [.t 3]),.c 14 168 [.t 12,.t 13]]))) (.q [.C 15 .add 8 1,.M 8 15])))
def f511r0:AC:= .v [.o 16 (.ldg 3 1 false),.c 17 169 [.t 16],.o 2 (.mvs 17)]
def f511C:AC:= .r [.Z 2 4] (.r [.o 3 (.galloc [.gs 0 0 0 0])] (.seq (.r [.M 6 0,.N 7 6,.I 8 0] (.block 0 (.loop (f511l0)))) (f511r0)))
def f511:Qi:=⟨1,18,[.tmp 2],f511C,false⟩
@[simp] theorem f511B:f511.body=f511C∧f511.res=[.tmp 2]∧f511.keep=false:=⟨rfl,rfl,rfl⟩
def f512C:AC:= .r [.b 2 0] (.z [.o 3 (.ldg 1 1 false),.L 4 2 0 4,.N 5 3,.o 6 (.mksl 4 [.c (.agg zT)]),.o 7 (.appM 56 4 (.t 3) (.t 6)),.X 8 4 7 5,.n (.stq 8 4 (.t 4) 1),.n (.st 1 1 (.t 7))])
def f512:Qi:=⟨2,9,[],f512C,true⟩
def f517C:AC:= .r [.b 3 1,.f 4 false,.I 5 0] (.r [.M 9 0,.L 10 3 0 4,.o 11 (.mksl 4 [.t 10]),.c 12 518 [.t 9,.t 11],.M 8 12,.E 13 8 0,.E 14 8 1,.o 6 (.mvs 13),.M 7 14] (.seq (.r [.M 15 7,.C 16 .neq 15 0] (.i 16 (.v [.M 17 7,.f 4 false,.M 5 17]))) (.seq (.z [.M 18 0,.c 19 527 [.t 18],.M 20 6,.c 21 529 [.t 19,.t 20],.L 22 3 0 4,.c 23 530 [.t 21,.t 22],.M 4 23,.I 5 0]) (.ret))))
def f517:Qi:=⟨2,24,[.tmp 4,.tmp 5],f517C,false⟩
@[simp] theorem f517B:f517.body=f517C∧f517.res=[.tmp 4,.tmp 5]∧f517.keep=false:=⟨rfl,rfl,rfl⟩
def f518C:AC:= .r [.Z 4 4,.I 5 0] (.seq (.r [.M 10 0,.N 11 10,.C 12 .gtr 11 60] (.i 12 (.v [.Z 4 4,.I 5 3]))) (.r [.M 13 0,.M 14 1,.o 15 (.mksl 1 [.t 13,.t 14]),.c 16 180 [.t 15],.o 6 (.mvs 16)] (.seq (.r [.M 17 6,.c 18 519 [.t 17],.M 7 18] (.r [.M 19 7,.C 20 .neq 19 0] (.i 20 (.v [.M 21 7,.Z 4 4,.M 5 21])))) (.r [.M 22 6,.c 23 511 [.t 22],.o 8 (.mvs 23)] (.seq (.r [.M 24 8,.c 25 521 [.t 24],.M 9 25] (.r [.M 26 9,.C 27 .neq 26 0] (.i 27 (.v [.M 28 9,.Z 4 4,.M 5 28])))) (.v [.M 29 8,.o 4 (.mvs 29),.I 5 0]))))))
def f518:Qi:=⟨2,30,[.tmp 4,.tmp 5],f518C,false⟩
@[simp] theorem f518B:f518.body=f518C∧f518.res=[.tmp 4,.tmp 5]∧f518.keep=false:=⟨rfl,rfl,rfl⟩
def f519l0:AC:= .r [.B 9 .lss 8 7] (.seq (.x 9 0) (.seq (.block 1 (.r [.X 10 4 6 8,.DT 11 10 4,.T 4,.S 4 0 4 11] (.r [.L 12 4 0 4,.c 13 520 [.t 12],.M 5 13] (.r [.M 14 5,.C 15 .neq 14 0] (.i 15 (.v [.M 16 5,.M 2 16])))))) (.q [.C 17 .add 8 1,.M 8 17])))
def f519r0:AC:= .v [.I 2 0]
def f519C:AC:= .r [.I 2 0] (.seq (.r [.M 6 0,.N 7 6,.I 8 0] (.block 0 (.loop (f519l0)))) (f519r0))
def f519:Qi:=⟨1,18,[.tmp 2],f519C,false⟩
@[simp] theorem f519B:f519.body=f519C∧f519.res=[.tmp 2]∧f519.keep=false:=⟨rfl,rfl,rfl⟩
def f520C:AC:= .r [.b 1 0,.I 2 0] (.seq (.r [.L 4 1 0 4,.c 5 41 [.t 4],.M 3 5] (.r [.M 6 3,.C 7 .neq 6 0] (.i 7 (.v [.M 8 3,.M 2 8])))) (.seq (.block 0 (.r [.L 10 1 0 4,.c 11 165 [.t 10],.N 12 11,.C 13 .gtr 12 0,.M 9 13] (.cond (.t 9) (.v [.I 2 13]) (.r [.L 15 1 0 4,.c 16 173 [.t 15],.o 17 (.un .not (.t 16)),.M 14 17] (.i 14 (.v [.I 2 10])))))) (.v [.I 2 0])))
def f520:Qi:=⟨1,18,[.tmp 2],f520C,false⟩
@[simp] theorem f520B:f520.body=f520C∧f520.res=[.tmp 2]∧f520.keep=false:=⟨rfl,rfl,rfl⟩
def f521l0:AC:= .r [.B 38 .lss 37 36] (.seq (.x 38 3) (.seq (.block 4 (.r [.X 39 5 35 37,.DT 40 39 5,.o 10 (.alloc [.int .i64 0,.str [],.int .i64 0,.sl true 4 [],.int .i64 0]),.S 10 0 5 40] (.q [.M 41 4,.F 42 10 0,.L 43 10 0 4,.c 44 523 [.t 41,.t 43],.o 4 (.mvs 44)]))) (.q [.C 45 .add 37 1,.M 37 45])))
def f521r0:AC:= .q [.C 46 .add 13 1,.M 13 46]
def f521l1:AC:= .r [.B 14 .lss 13 12] (.seq (.x 14 0) (.seq (.block 1 (.r [.X 15 4 11 13,.DT 16 15 4,.T 6,.S 6 0 4 16] (.seq (.block 2 (.r [.L 18 6 0 4,.c 19 522 [.t 18],.M 17 19] (.cond (.t 17) (.q [.M 20 3,.C 21 .add 20 1,.M 3 21]) (.r [.L 23 6 0 4,.o 24 (.mksl 1 [.c (.str [101,120,112])]),.c 25 160 [.t 23,.t 24],.M 22 25] (.cond (.t 22) (.q [.F 26 6 3,.l 27 6 3 1,.o 28 (.idxa 4 (.t 27) (.i 1)),.DT 29 28 4,.S 6 0 4 29]) (.exit 1)))))) (.r [.L 31 6 0 4,.c 32 186 [.t 31],.M 30 32,.E 33 30 0,.E 34 30 1,.o 7 (.mvs 33),.M 8 34] (.r [.M 35 7,.N 36 35,.I 37 0] (.block 3 (.loop (f521l0)))))))) (f521r0)))
def f521r1:AC:= .seq (.r [.M 47 0,.N 48 47,.C 49 .gtr 48 200,.M 50 49,.g 51 (.m 3) 50 false,.g 52 (.bin .gtr (.t 51) (.i 4)) 50 false,.Q 53 50 52,.M 54 53,.g 55 (.m 4) 54 false,.g 56 (.lenl (.t 55)) 54 false,.g 57 (.bin .gtr (.t 56) (.i 8)) 54 false,.Q 58 54 57] (.i 58 (.v [.I 2 3]))) (.v [.I 2 0])
def f521C:AC:= .r [.I 2 0] (.r [.I 3 0] (.r [.Z 4 4] (.seq (.r [.M 11 0,.N 12 11,.I 13 0] (.block 0 (.loop (f521l1)))) (f521r1))))
def f521:Qi:=⟨1,59,[.tmp 2],f521C,false⟩
@[simp] theorem f521B:f521.body=f521C∧f521.res=[.tmp 2]∧f521.keep=false:=⟨rfl,rfl,rfl⟩
def f522C:AC:= .r [.b 1 0,.f 2 false] (.v [.L 3 1 0 4,.o 4 (.mksl 1 [.c (.str [109,117,108]),.c (.str [105,110,118])]),.c 5 160 [.t 3,.t 4],.M 2 5])
def f522:Qi:=⟨1,6,[.tmp 2],f522C,false⟩
@[simp] theorem f522B:f522.body=f522C∧f522.res=[.tmp 2]∧f522.keep=false:=⟨rfl,rfl,rfl⟩
def f523C:AC:= .r [.b 3 1,.Z 4 4] (.r [.M 8 0,.L 9 3 0 4,.c 10 524 [.t 8,.t 9,.c (.fn 30 [])],.M 7 10,.E 11 7 0,.E 12 7 1,.M 5 11,.M 6 12] (.seq (.r [.M 13 6] (.i 13 (.v [.M 14 0,.o 4 (.mvs 14)]))) (.seq (.z [.M 15 0,.c 16 525 [.t 15],.M 17 5,.L 18 3 0 4,.o 19 (.mksl 4 [.t 18]),.c 20 526 [.t 16,.t 17,.t 19],.o 4 (.frz 20 4)]) (.ret))))
def f523:Qi:=⟨2,21,[.tmp 4],f523C,false⟩
@[simp] theorem f523B:f523.body=f523C∧f523.res=[.tmp 4]∧f523.keep=false:=⟨rfl,rfl,rfl⟩
def f524l0:AC:= .seq (.r [.M 15 9,.M 16 10,.B 17 .lss 15 16] (.x 17 0)) (.block 1 (.r [.M 18 9,.M 19 10,.B 20 .add 18 19,.o 21 (.conv .u64 (.t 20)),.o 22 (.bin .shr (.t 21) (.c (.int .u64 1))),.o 23 (.conv .i64 (.t 22)),.M 11 23] (.seq (.z [.M 24 2,.M 25 0,.M 26 11,.X 27 4 25 26,.DT 28 27 4,.L 29 4 0 4,.o 30 (.callv (.t 24) [.t 28,.t 29]),.C 31 .lss 30 0]) (.cond (.t 31) (.q [.M 32 11,.C 33 .add 32 1,.M 9 33]) (.q [.M 34 11,.M 10 34])))))
def f524r0:AC:= .seq (.z [.M 35 9,.M 36 9,.M 37 8,.B 38 .lss 36 37,.M 39 38,.g 40 (.m 2) 39 true,.g 41 (.m 0) 39 true,.g 42 (.m 9) 39 true,.g 43 (.idxa 4 (.t 41) (.t 42)) 39 true,.g 44 (.ld 43 4 true) 39 true,.g 45 (.ldf 4 0 4 true) 39 true,.g 46 (.callv (.t 40) [.t 44,.t 45]) 39 true,.g 47 (.bin .eql (.t 46) (.i 0)) 39 true,.P 48 39 47,.M 6 35,.M 7 48]) (.ret)
def f524C:AC:= .r [.b 4 1,.I 6 0,.f 7 false] (.r [.M 12 0,.N 13 12,.M 8 13] (.r [.M 14 8,.I 9 0,.M 10 14] (.seq (.block 0 (.loop (f524l0))) (f524r0))))
def f524:Qi:=⟨3,49,[.tmp 6,.tmp 7],f524C,false⟩
@[simp] theorem f524B:f524.body=f524C∧f524.res=[.tmp 6,.tmp 7]∧f524.keep=false:=⟨rfl,rfl,rfl⟩
def f527C:AC:= .r [.Z 2 4] (.r [.M 4 0,.c 5 193 [.t 4],.M 3 5] (.r [.M 6 3,.c 7 170 [.t 6,.c (.fn 30 [])]] (.v [.M 8 3,.c 9 497 [.t 8,.c (.fn 528 [])],.o 2 (.mvs 9)])))
def f527:Qi:=⟨1,10,[.tmp 2],f527C,false⟩
@[simp] theorem f527B:f527.body=f527C∧f527.res=[.tmp 2]∧f527.keep=false:=⟨rfl,rfl,rfl⟩
def f528C:AC:= .r [.b 2 0,.b 3 1,.f 4 false] (.v [.L 5 2 0 4,.L 6 3 0 4,.c 7 30 [.t 5,.t 6],.C 8 .eql 7 0,.M 4 8])
def f528:Qi:=⟨2,9,[.tmp 4],f528C,false⟩
@[simp] theorem f528B:f528.body=f528C∧f528.res=[.tmp 4]∧f528.keep=false:=⟨rfl,rfl,rfl⟩
def f529l0:AC:= .r [.B 12 .lss 11 10] (.seq (.x 12 2) (.seq (.block 3 (.r [.X 13 4 9 11,.DT 14 13 4,.T 7,.S 7 0 4 14] (.r [.M 15 0,.L 16 7 0 4,.c 17 530 [.t 15,.t 16],.o 18 (.un .not (.t 17)),.M 19 18,.g 20 (.m 0) 19 true,.g 21 (.ldf 7 0 4 true) 19 true,.g 22 (.call 531 [.t 20,.t 21]) 19 true,.P 23 19 22] (.i 23 (.r [.M 24 0,.L 25 7 0 4,.c 26 523 [.t 24,.t 25],.o 0 (.mvs 26)] (.q [.f 5 true])))))) (.q [.C 27 .add 11 1,.M 11 27])))
def f529l1:AC:= .seq (.r [.M 8 5] (.x 8 0)) (.block 1 (.r [.f 5 false] (.r [.M 9 1,.N 10 9,.I 11 0] (.block 2 (.loop (f529l0))))))
def f529r0:AC:= .v [.M 28 0,.o 4 (.mvs 28)]
def f529C:AC:= .r [.Z 4 4] (.seq (.r [.f 5 true] (.block 0 (.loop (f529l1)))) (f529r0))
def f529:Qi:=⟨2,29,[.tmp 4],f529C,false⟩
@[simp] theorem f529B:f529.body=f529C∧f529.res=[.tmp 4]∧f529.keep=false:=⟨rfl,rfl,rfl⟩
def f530C:AC:= .r [.b 3 1,.f 4 false] (.r [.M 8 0,.L 9 3 0 4,.c 10 524 [.t 8,.t 9,.c (.fn 30 [])],.M 7 10,.E 11 7 0,.E 12 7 1,.M 5 11,.M 6 12] (.v [.M 13 6,.M 4 13]))
def f530:Qi:=⟨2,14,[.tmp 4],f530C,false⟩
@[simp] theorem f530B:f530.body=f530C∧f530.res=[.tmp 4]∧f530.keep=false:=⟨rfl,rfl,rfl⟩
def f531C:AC:= .r [.b 3 1,.f 4 false] (.v [.M 5 0,.L 6 3 0 4,.c 7 530 [.t 5,.t 6],.M 8 7,.g 9 (.ldf 3 0 4 true) 8 false,.g 10 (.call 159 [.t 9]) 8 false,.Q 11 8 10,.M 12 11,.g 13 (.m 0) 12 false,.g 14 (.ldf 3 0 4 true) 12 false,.g 15 (.call 532 [.t 13,.t 14]) 12 false,.Q 16 12 15,.M 17 16,.g 18 (.m 0) 17 false,.g 19 (.ldf 3 0 4 true) 17 false,.g 20 (.call 534 [.t 18,.t 19]) 17 false,.Q 21 17 20,.M 22 21,.g 23 (.m 0) 22 false,.g 24 (.ldf 3 0 4 true) 22 false,.g 25 (.call 539 [.t 23,.t 24]) 22 false,.Q 26 22 25,.M 27 26,.g 28 (.m 0) 27 false,.g 29 (.ldf 3 0 4 true) 27 false,.g 30 (.call 552 [.t 28,.t 29]) 27 false,.Q 31 27 30,.M 32 31,.g 33 (.m 0) 32 false,.g 34 (.ldf 3 0 4 true) 32 false,.g 35 (.call 568 [.t 33,.t 34]) 32 false,.Q 36 32 35,.M 4 36])
def f531:Qi:=⟨2,37,[.tmp 4],f531C,false⟩
@[simp] theorem f531B:f531.body=f531C∧f531.res=[.tmp 4]∧f531.keep=false:=⟨rfl,rfl,rfl⟩
def f532C:AC:= .r [.o 2 (.gbox (.t 0)),.b 3 1,.f 4 false] (.v [.L 5 3 0 4,.o 6 (.mksl 1 [.c (.str [112,97,105,114]),.c (.str [101,110,99]),.c (.str [97,101,110,99]),.c (.str [112,107]),.c (.str [115,105,103,110]),.c (.str [104,97,115,104])]),.c 7 160 [.t 5,.t 6],.M 8 7,.g 9 (.fad 3 3) 8 true,.g 10 (.ldf 3 3 1 false) 8 true,.g 11 (.mkfn 533 [.t 2]) 8 true,.g 12 (.call 214 [.t 10,.t 11]) 8 true,.g 13 (.un .not (.t 12)) 8 true,.P 14 8 13,.M 4 14])
def f532:Qi:=⟨2,15,[.tmp 4],f532C,false⟩
@[simp] theorem f532B:f532.body=f532C∧f532.res=[.tmp 4]∧f532.keep=false:=⟨rfl,rfl,rfl⟩
def f533C:AC:= .r [.b 2 0,.f 3 false] (.v [.o 4 (.ldg 1 1 false),.L 5 2 0 4,.c 6 530 [.t 4,.t 5],.o 7 (.un .not (.t 6)),.M 3 7])
def f533:Qi:=⟨2,8,[.tmp 3],f533C,false⟩
@[simp] theorem f533B:f533.body=f533C∧f533.res=[.tmp 3]∧f533.keep=false:=⟨rfl,rfl,rfl⟩
def f534C:AC:= .r [.o 2 (.gbox (.t 0)),.o 3 (.gbox (.t 1)),.f 4 false] (.v [.o 5 (.ldg 2 1 false),.o 6 (.mkfn 535 [.t 3,.t 2]),.c 7 537 [.t 5,.t 6],.M 4 7])
def f534:Qi:=⟨2,8,[.tmp 4],f534C,false⟩
@[simp] theorem f534B:f534.body=f534C∧f534.res=[.tmp 4]∧f534.keep=false:=⟨rfl,rfl,rfl⟩
def f535C:AC:= .r [.b 3 0,.f 4 false] (.seq (.block 0 (.r [.L 8 3 0 4,.o 9 (.mksl 1 [.c (.str [112,97,105,114])]),.c 10 160 [.t 8,.t 9],.M 7 10] (.cond (.t 7) (.seq (.z [.F 11 3 3,.l 12 3 3 1,.o 13 (.idxa 4 (.t 12) (.i 0)),.DT 14 13 4,.o 15 (.ldg 1 4 true),.c 16 536 [.t 14,.t 15],.M 17 16,.g 18 (.fad 3 3) 17 false,.g 19 (.ldf 3 3 1 false) 17 false,.g 20 (.idxa 4 (.t 19) (.i 1)) 17 false,.g 21 (.ld 20 4 true) 17 false,.g 22 (.ldg 1 4 true) 17 false,.g 23 (.call 536 [.t 21,.t 22]) 17 false,.Q 24 17 23,.M 4 24]) (.ret)) (.r [.L 26 3 0 4,.o 27 (.mksl 1 [.c (.str [115,105,103,110])]),.c 28 160 [.t 26,.t 27],.M 25 28] (.cond (.t 25) (.seq (.z [.F 29 3 3,.l 30 3 3 1,.o 31 (.idxa 4 (.t 30) (.i 0)),.DT 32 31 4,.o 33 (.ldg 1 4 true),.c 34 536 [.t 32,.t 33],.M 4 34]) (.ret)) (.r [.L 36 3 0 4,.o 37 (.mksl 1 [.c (.str [101,110,99]),.c (.str [97,101,110,99])]),.c 38 160 [.t 36,.t 37],.M 35 38] (.i 35 (.r [.L 40 3 0 4,.c 41 418 [.t 40],.M 39 41,.E 42 39 0,.E 43 39 1,.T 5,.S 5 0 4 42,.M 6 43] (.seq (.z [.M 44 6,.C 45 .eql 44 0,.M 46 45,.g 47 (.fad 3 3) 46 true,.g 48 (.ldf 3 3 1 false) 46 true,.g 49 (.idxa 4 (.t 48) (.i 0)) 46 true,.g 50 (.ld 49 4 true) 46 true,.g 51 (.ldg 1 4 true) 46 true,.g 52 (.call 536 [.t 50,.t 51]) 46 true,.P 53 46 52,.M 54 53,.g 55 (.ldg 2 1 false) 54 true,.g 56 (.ldf 5 0 4 true) 54 true,.g 57 (.call 530 [.t 55,.t 56]) 54 true,.P 58 54 57,.M 4 58]) (.ret)))))))))) (.v [.f 4 false]))
def f535:Qi:=⟨3,59,[.tmp 4],f535C,false⟩
@[simp] theorem f535B:f535.body=f535C∧f535.res=[.tmp 4]∧f535.keep=false:=⟨rfl,rfl,rfl⟩
def f536C:AC:= .r [.b 2 0,.b 3 1,.f 4 false] (.v [.L 5 2 0 4,.L 6 3 0 4,.c 7 30 [.t 5,.t 6],.C 8 .eql 7 0,.M 4 8])
def f536:Qi:=⟨2,9,[.tmp 4],f536C,false⟩
@[simp] theorem f536B:f536.body=f536C∧f536.res=[.tmp 4]∧f536.keep=false:=⟨rfl,rfl,rfl⟩
def f537C:AC:= .r [.f 4 false] (.v [.M 5 0,.M 6 1,.c 7 538 [.t 5,.t 6],.C 8 .geq 7 0,.M 4 8])
def f537:Qi:=⟨2,9,[.tmp 4],f537C,false⟩
@[simp] theorem f537B:f537.body=f537C∧f537.res=[.tmp 4]∧f537.keep=false:=⟨rfl,rfl,rfl⟩
def f538l0:AC:= .r [.B 9 .lss 8 7] (.seq (.x 9 0) (.seq (.block 1 (.r [.M 10 8,.M 5 10] (.r [.M 11 1,.M 12 0,.M 13 5,.X 14 4 12 13,.DT 15 14 4,.o 16 (.callv (.t 11) [.t 15])] (.i 16 (.v [.M 17 5,.M 4 17]))))) (.q [.C 18 .add 8 1,.M 8 18])))
def f538r0:AC:= .v [.I 4 (-1)]
def f538C:AC:= .r [.I 4 0] (.seq (.r [.M 6 0,.N 7 6,.I 8 0] (.block 0 (.loop (f538l0)))) (f538r0))
def f538:Qi:=⟨2,19,[.tmp 4],f538C,false⟩
@[simp] theorem f538B:f538.body=f538C∧f538.res=[.tmp 4]∧f538.keep=false:=⟨rfl,rfl,rfl⟩
def f539l0:AC:= .r [.B 25 .lss 24 23] (.seq (.x 25 0) (.seq (.block 1 (.r [.X 26 4 22 24,.DT 27 26 4,.T 8,.S 8 0 4 27] (.r [.L 28 8 0 4,.o 29 (.mksl 1 [.c (.str [120,111,114])]),.c 30 160 [.t 28,.t 29]] (.i 30 (.r [.L 32 8 0 4,.c 33 540 [.t 32],.M 31 33,.E 34 31 0,.E 35 31 1,.o 9 (.mvs 34),.M 10 35] (.q [.o 36 (.mvs 5),.M 37 9,.A 38 56 4 36 37,.o 5 (.mvs 38)])))))) (.q [.C 39 .add 24 1,.M 24 39])))
def f539l1:AC:= .r [.B 45 .lss 44 43] (.seq (.x 45 2) (.seq (.block 3 (.r [.X 46 4 42 44,.DT 47 46 4,.T 14,.S 14 0 4 47] (.r [.L 48 14 0 4,.o 49 (.mksl 1 [.c (.str [120,111,114])]),.c 50 160 [.t 48,.t 49],.M 51 50,.g 52 (.m 11) 51 false,.g 53 (.ldf 14 0 4 true) 51 false,.g 54 (.call 530 [.t 52,.t 53]) 51 false,.Q 55 51 54] (.i 55 (.q [.o 56 (.mvs 12),.L 57 14 0 4,.o 58 (.mksl 4 [.t 57]),.A 59 56 4 56 58,.o 12 (.mvs 59)]))))) (.q [.C 60 .add 44 1,.M 44 60])))
def f539r0:AC:= .r [.M 62 12,.L 63 3 0 4,.c 64 541 [.t 62,.t 63],.M 61 64,.E 65 61 0,.E 66 61 1,.o 15 (.mvs 65),.M 16 66] (.v [.M 67 16,.C 68 .eql 67 0,.M 4 68])
def f539r1:AC:= .r [.M 40 5,.c 41 527 [.t 40],.o 11 (.mvs 41)] (.r [.Z 12 4] (.seq (.r [.M 42 0,.N 43 42,.I 44 0] (.block 2 (.loop (f539l1)))) (f539r0)))
def f539C:AC:= .r [.b 3 1,.f 4 false] (.r [.L 18 3 0 4,.c 19 540 [.t 18],.o 17 (.mvs 19),.o 20 (.extm 17),.E 21 17 1,.o 5 (.mvs 20),.M 6 21] (.seq (.r [.M 22 0,.N 23 22,.I 24 0] (.block 0 (.loop (f539l0)))) (f539r1)))
def f539:Qi:=⟨2,69,[.tmp 4],f539C,false⟩
@[simp] theorem f539B:f539.body=f539C∧f539.res=[.tmp 4]∧f539.keep=false:=⟨rfl,rfl,rfl⟩
def f540C:AC:= .r [.b 1 0,.Z 2 4,.I 3 0] (.seq (.r [.L 5 1 0 4,.o 6 (.mksl 4 [.t 5]),.c 7 179 [.c (.sl true 4 []),.t 6],.M 4 7] (.r [.M 8 4,.C 9 .neq 8 0] (.i 9 (.v [.M 10 4,.Z 2 4,.M 3 10])))) (.v [.L 11 1 0 4,.c 12 182 [.t 11],.c 13 184 [.t 12],.o 2 (.mvs 13),.I 3 0]))
def f540:Qi:=⟨1,14,[.own 2,.tmp 3],f540C,false⟩
@[simp] theorem f540B:f540.body=f540C∧f540.res=[.own 2,.tmp 3]∧f540.keep=false:=⟨rfl,rfl,rfl⟩
def f541l0:AC:= .r [.B 41 .lss 40 39] (.seq (.x 41 0) (.seq (.block 1 (.r [.M 42 40,.M 11 42] (.r [.M 43 9,.M 44 11,.c 45 549 [.t 43,.t 44]] (.i 45 (.q [.o 46 (.mvs 10),.M 47 11,.o 48 (.mksl 1 [.t 47]),.A 49 8 1 46 48,.o 10 (.mvs 49)]))))) (.q [.C 50 .add 40 1,.M 40 50])))
def f541r0:AC:= .v [.M 51 10,.o 4 (.mvs 51),.I 5 0]
def f541C:AC:= .r [.b 3 1,.Z 4 1,.I 5 0] (.seq (.r [.M 12 0,.L 13 3 0 4,.o 14 (.mksl 4 [.t 13]),.c 15 179 [.t 12,.t 14],.M 6 15] (.r [.M 16 6,.C 17 .neq 16 0] (.i 17 (.v [.M 18 6,.Z 4 1,.M 5 18])))) (.r [.M 19 0,.L 20 3 0 4,.c 21 542 [.t 19,.t 20],.M 7 21] (.r [.M 23 7,.M 24 7,.L 25 3 0 4,.c 26 544 [.t 24,.t 25],.c 27 548 [.t 23,.t 26],.M 22 27,.E 28 22 0,.E 29 22 1,.M 8 28,.M 9 29] (.seq (.r [.M 30 8,.M 31 7,.o 32 (.nilck (.t 31)),.o 33 (.fadr 32 0),.o 34 (.ldg 33 1 false),.N 35 34,.c 36 551 [.t 30,.t 35],.C 37 .geq 36 0] (.i 37 (.v [.Z 4 1,.I 5 4]))) (.r [.Z 10 1] (.seq (.r [.M 38 0,.N 39 38,.I 40 0] (.block 0 (.loop (f541l0)))) (f541r0)))))))
def f541:Qi:=⟨2,52,[.tmp 4,.tmp 5],f541C,false⟩
@[simp] theorem f541B:f541.body=f541C∧f541.res=[.tmp 4,.tmp 5]∧f541.keep=false:=⟨rfl,rfl,rfl⟩
def f542l0:AC:= .r [.B 26 .lss 25 24] (.seq (.x 26 0) (.seq (.block 1 (.r [.X 27 4 23 25,.o 28 (.ldg 27 4 true),.T 7,.S 7 0 4 28] (.z [.M 29 5,.M 30 5,.o 31 (.nilck (.t 30)),.o 32 (.fadr 31 0),.o 33 (.ldg 32 1 false),.L 34 7 0 4,.o 35 (.callq 182 [.t 34]),.o 36 (.appM 56 4 (.t 33) (.t 35)),.o 37 (.nilck (.t 29)),.o 38 (.fadr 37 0),.n (.st 38 1 (.t 36))]))) (.q [.C 39 .add 25 1,.M 25 39])))
def f542l1:AC:= .r [.B 56 .lss 55 54] (.seq (.x 56 2) (.seq (.block 3 (.r [.M 57 55,.X 58 4 53 55,.DT 59 58 4,.T 9,.M 8 57,.S 9 0 4 59] (.r [.M 61 5,.M 62 5,.L 63 9 0 4,.c 64 544 [.t 62,.t 63],.c 65 548 [.t 61,.t 64],.M 60 65,.E 66 60 0,.E 67 60 1,.M 10 66,.M 11 67] (.r [.M 68 10,.M 69 5,.o 70 (.nilck (.t 69)),.o 71 (.fadr 70 0),.o 72 (.ldg 71 1 false),.N 73 72,.c 74 551 [.t 68,.t 73],.M 12 74] (.r [.M 75 12,.C 76 .geq 75 0] (.i 76 (.r [.M 77 11,.M 78 8,.c 79 547 [.t 77,.t 78]] (.seq (.z [.M 80 5,.o 81 (.nilck (.t 80)),.o 82 (.fadr 81 2),.o 83 (.ldg 82 1 false),.M 84 12,.M 85 5,.o 86 (.nilck (.t 85)),.o 87 (.fadr 86 3),.o 88 (.ldg 87 1 false),.M 89 12,.M 90 10,.M 91 11,.o 92 (.mpe false (.t 83) (.t 84) (.sl true 1 [])),.E 93 92 1,.n (.ensf (.t 83) (.t 93) 90 1),.o 94 (.mpe false (.t 88) (.t 89) (.sl true 1 [])),.E 95 94 1,.n (.ensf (.t 88) (.t 95) 91 1)]) (.q [.M 96 5,.M 97 5,.o 98 (.nilck (.t 97)),.o 99 (.fadr 98 4),.o 100 (.ldg 99 1 false),.M 101 8,.o 102 (.mksl 1 [.t 101]),.o 103 (.appM 8 1 (.t 100) (.t 102)),.o 104 (.nilck (.t 96)),.o 105 (.fadr 104 4),.n (.st 105 1 (.t 103))]))))))))) (.q [.C 106 .add 55 1,.M 55 106])))
def f542r0:AC:= .v [.M 107 5,.M 4 107]
def f542r1:AC:= .r [.M 40 5,.o 41 (.nilck (.t 40)),.o 42 (.fadr 41 0),.o 43 (.ldg 42 1 false),.c 44 170 [.t 43,.c (.fn 30 [])]] (.r [.M 45 5,.M 46 5,.o 47 (.nilck (.t 46)),.o 48 (.fadr 47 0),.o 49 (.ldg 48 1 false),.c 50 172 [.t 49,.c (.fn 543 [])],.o 51 (.nilck (.t 45)),.o 52 (.fadr 51 0),.n (.st 52 1 (.t 50))] (.seq (.r [.M 53 0,.N 54 53,.I 55 0] (.block 2 (.loop (f542l1)))) (f542r0)))
def f542C:AC:= .r [.b 3 1,.o 4 (.nilp)] (.r [.M 13 0,.N 14 13,.o 15 (.mkm),.o 16 (.mkm),.o 17 (.mkst [.gs 0 0 0 0,.int .i64 0,.undef,.undef,.gs 0 0 0 0] [(1,1,.t 14),(2,1,.t 15),(3,1,.t 16)]),.o 18 (.gbox (.t 17)),.M 5 18] (.seq (.seq (.z [.M 19 0,.c 20 193 [.t 19],.L 21 3 0 4,.o 22 (.mksl 4 [.t 21]),.o 23 (.appM 56 4 (.t 20) (.t 22)),.N 24 23,.I 25 0]) (.block 0 (.loop (f542l0)))) (f542r1)))
def f542:Qi:=⟨2,108,[.tmp 4],f542C,true⟩
@[simp] theorem f542B:f542.body=f542C∧f542.res=[.tmp 4]∧f542.keep=true:=⟨rfl,rfl,rfl⟩
def f543C:AC:= .r [.b 2 0,.b 3 1,.f 4 false] (.v [.L 5 2 0 4,.L 6 3 0 4,.c 7 30 [.t 5,.t 6],.C 8 .eql 7 0,.M 4 8])
def f543:Qi:=⟨2,9,[.tmp 4],f543C,false⟩
@[simp] theorem f543B:f543.body=f543C∧f543.res=[.tmp 4]∧f543.keep=false:=⟨rfl,rfl,rfl⟩
def f544l0:AC:= .r [.B 20 .lss 19 18] (.seq (.x 20 0) (.seq (.block 1 (.r [.X 21 4 17 19,.DT 22 21 4,.T 7,.S 7 0 4 22] (.q [.M 23 5,.M 24 0,.L 25 7 0 4,.c 26 545 [.t 24,.t 25],.c 27 547 [.t 23,.t 26]]))) (.q [.C 28 .add 19 1,.M 19 28])))
def f544r0:AC:= .v [.M 29 5,.M 4 29]
def f544C:AC:= .r [.b 3 1,.Z 4 1] (.r [.M 8 0,.o 9 (.nilck (.t 8)),.o 10 (.fadr 9 0),.o 11 (.ldg 10 1 false),.N 12 11,.C 13 .quo 12 64,.C 14 .add 13 1,.o 15 (.mkg 8 1 [.int .u64 0] (.t 14)),.M 5 15] (.seq (.r [.L 16 3 0 4,.c 17 182 [.t 16],.N 18 17,.I 19 0] (.block 0 (.loop (f544l0)))) (f544r0)))
def f544:Qi:=⟨2,30,[.tmp 4],f544C,true⟩
@[simp] theorem f544B:f544.body=f544C∧f544.res=[.tmp 4]∧f544.keep=true:=⟨rfl,rfl,rfl⟩
def f545C:AC:= .r [.b 3 1,.I 4 0] (.seq (.z [.M 8 0,.o 9 (.nilck (.t 8)),.o 10 (.fadr 9 0),.o 11 (.ldg 10 1 false),.L 12 3 0 4,.c 13 546 [.t 11,.t 12,.c (.fn 30 [])],.M 7 13,.E 14 7 0,.E 15 7 1,.M 5 14,.M 6 15]) (.v [.M 16 5,.M 4 16]))
def f545:Qi:=⟨2,17,[.tmp 4],f545C,false⟩
@[simp] theorem f545B:f545.body=f545C∧f545.res=[.tmp 4]∧f545.keep=false:=⟨rfl,rfl,rfl⟩
def f546l0:AC:= .seq (.r [.M 15 9,.M 16 10,.B 17 .lss 15 16] (.x 17 0)) (.block 1 (.r [.M 18 9,.M 19 10,.B 20 .add 18 19,.o 21 (.conv .u64 (.t 20)),.o 22 (.bin .shr (.t 21) (.c (.int .u64 1))),.o 23 (.conv .i64 (.t 22)),.M 11 23] (.seq (.z [.M 24 2,.M 25 0,.M 26 11,.X 27 4 25 26,.o 28 (.ldg 27 4 true),.L 29 4 0 4,.o 30 (.callv (.t 24) [.t 28,.t 29]),.C 31 .lss 30 0]) (.cond (.t 31) (.q [.M 32 11,.C 33 .add 32 1,.M 9 33]) (.q [.M 34 11,.M 10 34])))))
def f546r0:AC:= .seq (.z [.M 35 9,.M 36 9,.M 37 8,.B 38 .lss 36 37,.M 39 38,.g 40 (.m 2) 39 true,.g 41 (.m 0) 39 true,.g 42 (.m 9) 39 true,.g 43 (.idxa 4 (.t 41) (.t 42)) 39 true,.g 44 (.ldg 43 4 true) 39 true,.g 45 (.ldf 4 0 4 true) 39 true,.g 46 (.callv (.t 40) [.t 44,.t 45]) 39 true,.g 47 (.bin .eql (.t 46) (.i 0)) 39 true,.P 48 39 47,.M 6 35,.M 7 48]) (.ret)
def f546C:AC:= .r [.b 4 1,.I 6 0,.f 7 false] (.r [.M 12 0,.N 13 12,.M 8 13] (.r [.M 14 8,.I 9 0,.M 10 14] (.seq (.block 0 (.loop (f546l0))) (f546r0))))
def f546:Qi:=⟨3,49,[.tmp 6,.tmp 7],f546C,false⟩
@[simp] theorem f546B:f546.body=f546C∧f546.res=[.tmp 6,.tmp 7]∧f546.keep=false:=⟨rfl,rfl,rfl⟩
def f547C:AC:= .z [.M 4 0,.M 5 1,.C 6 .quo 5 64,.X 7 1 4 6,.o 8 (.ldg 7 1 false),.M 9 1,.C 10 .rem 9 64,.o 11 (.bin .shl (.c (.int .u64 1)) (.t 10)),.B 12 .xor 8 11,.X 13 1 4 6,.n (.st 13 1 (.t 12))]
def f547:Qi:=⟨2,14,[],f547C,false⟩
@[simp] theorem f547B:f547.body=f547C∧f547.res=[]∧f547.keep=false:=⟨rfl,rfl,rfl⟩
def f548l0:AC:= .r [.B 23 .lss 22 21] (.seq (.x 23 0) (.seq (.block 1 (.r [.M 24 22,.M 7 24] (.r [.M 26 0,.o 27 (.nilck (.t 26)),.o 28 (.fadr 27 2),.o 29 (.ldg 28 1 false),.M 30 7,.o 31 (.lkm false true (.t 29) (.t 30) (.sl true 1 [])),.M 25 31,.E 32 25 0,.E 33 25 1,.o 8 (.mvs 32),.M 9 33] (.r [.M 34 9,.M 35 34,.g 36 (.m 1) 35 true,.g 37 (.m 7) 35 true,.g 38 (.call 549 [.t 36,.t 37]) 35 true,.P 39 35 38] (.i 39 (.r [.M 40 1,.M 41 8,.c 42 550 [.t 40,.t 41]] (.q [.M 43 6,.M 44 0,.o 45 (.nilck (.t 44)),.o 46 (.fadr 45 3),.o 47 (.ldg 46 1 false),.M 48 7,.o 49 (.lkm false false (.t 47) (.t 48) (.sl true 1 [])),.c 50 550 [.t 43,.t 49]]))))))) (.q [.C 51 .add 22 1,.M 22 51])))
def f548r0:AC:= .v [.M 52 1,.M 53 6,.M 4 52,.M 5 53]
def f548C:AC:= .r [.Z 4 1,.Z 5 1] (.r [.M 10 0,.o 11 (.nilck (.t 10)),.o 12 (.fadr 11 1),.o 13 (.ldg 12 1 false),.C 14 .quo 13 64,.C 15 .add 14 1,.o 16 (.mkg 8 1 [.int .u64 0] (.t 15)),.M 6 16] (.seq (.r [.M 17 0,.o 18 (.nilck (.t 17)),.o 19 (.fadr 18 0),.o 20 (.ldg 19 1 false),.N 21 20,.I 22 0] (.block 0 (.loop (f548l0)))) (f548r0)))
def f548:Qi:=⟨2,54,[.tmp 4,.tmp 5],f548C,true⟩
@[simp] theorem f548B:f548.body=f548C∧f548.res=[.tmp 4,.tmp 5]∧f548.keep=true:=⟨rfl,rfl,rfl⟩
def f549C:AC:= .r [.f 4 false] (.v [.M 5 0,.M 6 1,.C 7 .quo 6 64,.X 8 1 5 7,.o 9 (.ldg 8 1 false),.M 10 1,.C 11 .rem 10 64,.B 12 .shr 9 11,.o 13 (.bin .and (.t 12) (.c (.int .u64 1))),.o 14 (.bin .eql (.t 13) (.c (.int .u64 1))),.M 4 14])
def f549:Qi:=⟨2,15,[.tmp 4],f549C,false⟩
@[simp] theorem f549B:f549.body=f549C∧f549.res=[.tmp 4]∧f549.keep=false:=⟨rfl,rfl,rfl⟩
def f550l0:AC:= .r [.B 8 .lss 7 6] (.seq (.x 8 0) (.seq (.block 1 (.r [.M 9 7,.M 4 9] (.z [.M 10 0,.M 11 4,.X 12 1 10 11,.o 13 (.ldg 12 1 false),.M 14 1,.M 15 4,.X 16 1 14 15,.DF 17 16 1,.B 18 .xor 13 17,.X 19 1 10 11,.n (.st 19 1 (.t 18))]))) (.q [.C 20 .add 7 1,.M 7 20])))
def f550C:AC:= .r [.M 5 0,.N 6 5,.I 7 0] (.block 0 (.loop (f550l0)))
def f550:Qi:=⟨2,21,[],f550C,false⟩
@[simp] theorem f550B:f550.body=f550C∧f550.res=[]∧f550.keep=false:=⟨rfl,rfl,rfl⟩
def f551l0:AC:= .r [.B 8 .lss 7 6] (.seq (.x 8 0) (.seq (.block 1 (.r [.M 9 7,.M 5 9] (.r [.M 10 0,.M 11 5,.c 12 549 [.t 10,.t 11]] (.i 12 (.v [.M 13 5,.M 4 13]))))) (.q [.C 14 .add 7 1,.M 7 14])))
def f551r0:AC:= .v [.I 4 (-1)]
def f551C:AC:= .r [.I 4 0] (.seq (.r [.M 6 1,.I 7 0] (.block 0 (.loop (f551l0)))) (f551r0))
def f551:Qi:=⟨2,15,[.tmp 4],f551C,false⟩
@[simp] theorem f551B:f551.body=f551C∧f551.res=[.tmp 4]∧f551.keep=false:=⟨rfl,rfl,rfl⟩
def f552C:AC:= .r [.o 2 (.gbox (.t 0)),.b 3 1,.f 4 false] (.r [.L 8 3 0 4,.c 9 553 [.t 8],.M 7 9,.E 10 7 0,.E 11 7 1,.o 5 (.galloc zT),.o 6 (.galloc [.sl true 5 []]),.n (.st 5 4 (.t 10)),.n (.stm 6 11)] (.v [.o 12 (.ldg 2 1 false),.o 13 (.mkfn 554 [.t 5,.t 6,.t 2]),.c 14 537 [.t 12,.t 13],.M 4 14]))
def f552:Qi:=⟨2,15,[.tmp 4],f552C,false⟩
@[simp] theorem f552B:f552.body=f552C∧f552.res=[.tmp 4]∧f552.keep=false:=⟨rfl,rfl,rfl⟩
def f553C:AC:= .r [.b 1 0,.T 2,.Z 3 5] (.seq (.r [.L 6 1 0 4,.o 7 (.mksl 1 [.c (.str [101,120,112])]),.c 8 160 [.t 6,.t 7],.o 9 (.un .not (.t 8))] (.i 9 (.v [.L 10 1 0 4,.S 2 0 4 10,.Z 3 5]))) (.r [.F 12 1 3,.l 13 1 3 1,.o 14 (.idxa 4 (.t 13) (.i 1)),.DT 15 14 4,.c 16 186 [.t 15],.M 11 16,.E 17 11 0,.E 18 11 1,.o 4 (.mvs 17),.M 5 18] (.v [.F 19 1 3,.l 20 1 3 1,.o 21 (.idxa 4 (.t 20) (.i 0)),.DT 22 21 4,.M 23 4,.S 2 0 4 22,.o 3 (.mvs 23)])))
def f553:Qi:=⟨1,24,[.cell 2 4 true,.tmp 3],f553C,false⟩
@[simp] theorem f553B:f553.body=f553C∧f553.res=[.cell 2 4 true,.tmp 3]∧f553.keep=false:=⟨rfl,rfl,rfl⟩
def f554C:AC:= .r [.b 4 0,.f 5 false] (.r [.L 11 4 0 4,.c 12 553 [.t 11],.M 10 12,.E 13 10 0,.E 14 10 1,.T 6,.S 6 0 4 13,.o 7 (.mvs 14)] (.seq (.r [.o 15 (.ldg 1 4 true),.L 16 6 0 4,.c 17 536 [.t 15,.t 16],.o 18 (.un .not (.t 17))] (.i 18 (.v [.f 5 false]))) (.seq (.z [.o 20 (.ldg 2 1 false),.M 21 7,.o 22 (.callq 363 [.t 21]),.c 23 200 [.t 20,.t 22],.M 19 23,.E 24 19 0,.E 25 19 1,.o 8 (.mvs 24),.M 9 25]) (.v [.M 26 9,.C 27 .eql 26 0,.M 28 27,.g 29 (.ldg 3 1 false) 28 true,.g 30 (.m 8) 28 true,.g 31 (.call 555 [.t 29,.t 30]) 28 true,.P 32 28 31,.M 5 32]))))
def f554:Qi:=⟨4,33,[.tmp 5],f554C,false⟩
@[simp] theorem f554B:f554.body=f554C∧f554.res=[.tmp 5]∧f554.keep=false:=⟨rfl,rfl,rfl⟩
def f555l0:AC:= .r [.B 21 .lss 20 19] (.seq (.x 21 0) (.seq (.block 1 (.r [.X 22 4 18 20,.DT 23 22 4,.T 7,.S 7 0 4 23] (.r [.L 24 7 0 4,.c 25 522 [.t 24]] (.i 25 (.r [.L 27 7 0 4,.c 28 186 [.t 27],.M 26 28,.E 29 26 0,.E 30 26 1,.o 8 (.mvs 29),.M 9 30] (.q [.o 31 (.mvs 5),.M 32 0,.M 33 8,.c 34 556 [.t 32,.t 33],.o 35 (.mksl 1 [.t 34]),.A 36 24 1 31 35,.o 5 (.mvs 36)])))))) (.q [.C 37 .add 20 1,.M 20 37])))
def f555r0:AC:= .r [.M 39 5,.M 40 1,.c 41 560 [.t 39,.t 40],.M 38 41,.E 42 38 0,.E 43 38 1,.o 10 (.mvs 42),.M 11 43] (.v [.M 44 11,.C 45 .eql 44 0,.M 4 45])
def f555C:AC:= .r [.f 4 false] (.seq (.r [.M 12 0,.M 13 1,.c 14 556 [.t 12,.t 13],.o 1 (.mvs 14)] (.r [.M 15 1,.N 16 15,.C 17 .eql 16 0] (.i 17 (.v [.f 4 true])))) (.r [.Z 5 1] (.seq (.r [.M 18 0,.N 19 18,.I 20 0] (.block 0 (.loop (f555l0)))) (f555r0))))
def f555:Qi:=⟨2,46,[.tmp 4],f555C,false⟩
@[simp] theorem f555B:f555.body=f555C∧f555.res=[.tmp 4]∧f555.keep=false:=⟨rfl,rfl,rfl⟩
def f556C:AC:= .r [.o 2 (.gbox (.t 0)),.Z 4 5] (.v [.M 5 1,.c 6 557 [.t 5],.o 7 (.mkfn 558 [.t 2]),.c 8 559 [.t 6,.t 7],.o 4 (.mvs 8)])
def f556:Qi:=⟨2,9,[.tmp 4],f556C,false⟩
@[simp] theorem f556B:f556.body=f556C∧f556.res=[.tmp 4]∧f556.keep=false:=⟨rfl,rfl,rfl⟩
def f558C:AC:= .r [.b 2 0,.f 3 false] (.v [.o 4 (.ldg 1 1 false),.F 5 2 0,.L 6 2 0 4,.c 7 530 [.t 4,.t 6],.M 3 7])
def f558:Qi:=⟨2,8,[.tmp 3],f558C,false⟩
@[simp] theorem f558B:f558.body=f558C∧f558.res=[.tmp 3]∧f558.keep=false:=⟨rfl,rfl,rfl⟩
def f559l0:AC:= .seq (.r [.M 16 6,.M 17 0,.N 18 17,.B 19 .lss 16 18] (.x 19 0)) (.seq (.block 1 (.r [.M 22 0,.M 23 6,.X 24 5 22 23,.o 25 (.ldg 24 5 true),.o 7 (.alloc [.int .i64 0,.str [],.int .i64 0,.sl true 4 [],.int .i64 0]),.S 7 0 5 25] (.r [.M 26 1,.L 27 7 0 5,.o 28 (.callv (.t 26) [.t 27]),.o 29 (.un .not (.t 28))] (.i 29 (.r [.M 30 0,.M 31 5,.L 32 7 0 5,.X 33 5 30 31,.n (.st 33 5 (.t 32))] (.q [.M 34 5,.C 35 .add 34 1,.M 5 35])))))) (.q [.M 20 6,.C 21 .add 20 1,.M 6 21]))
def f559r0:AC:= .r [.M 36 0,.M 37 5,.o 38 (.slcl 5 (.t 36) (some (.t 37)) none),.n (.clr 5 (.t 38))] (.v [.M 39 0,.M 40 5,.o 41 (.slcl 5 (.t 39) none (some (.t 40))),.o 4 (.frz 41 5)])
def f559C:AC:= .r [.Z 4 5] (.r [.M 8 0,.M 9 1,.c 10 205 [.t 8,.t 9],.M 5 10] (.seq (.r [.M 11 5,.C 12 .eql 11 (-1)] (.i 12 (.v [.M 13 0,.o 4 (.frz 13 5)]))) (.seq (.r [.M 14 5,.C 15 .add 14 1,.M 6 15] (.block 0 (.loop (f559l0)))) (f559r0))))
def f559:Qi:=⟨2,42,[.tmp 4],f559C,false⟩
@[simp] theorem f559B:f559.body=f559C∧f559.res=[.tmp 4]∧f559.keep=false:=⟨rfl,rfl,rfl⟩
def f560l0:AC:= .r [.B 32 .lss 31 30] (.seq (.x 32 0) (.seq (.block 1 (.r [.X 33 1 29 31,.o 34 (.ldg 33 1 false),.M 12 34] (.q [.o 35 (.mvs 10),.M 36 12,.o 37 (.un .neg (.t 36)),.o 38 (.mksl 1 [.t 37]),.A 39 8 1 35 38,.o 10 (.mvs 39)]))) (.q [.C 40 .add 31 1,.M 31 40])))
def f560r0:AC:= .v [.M 41 10,.o 4 (.mvs 41),.I 5 0]
def f560C:AC:= .r [.Z 4 1,.I 5 0] (.r [.M 14 0,.M 15 1,.c 16 561 [.t 14,.t 15],.M 13 16,.E 17 13 0,.E 18 13 1,.E 19 13 2,.E 20 13 3,.M 6 17,.M 7 18,.M 8 19,.M 9 20] (.seq (.r [.M 21 9,.C 22 .neq 21 0] (.i 22 (.v [.M 23 9,.Z 4 1,.M 5 23]))) (.seq (.r [.M 24 8,.C 25 .geq 24 0] (.i 25 (.v [.Z 4 1,.I 5 4]))) (.r [.Z 10 1] (.seq (.r [.M 26 7,.o 27 (.nilck (.t 26)),.o 28 (.fadr 27 1),.o 29 (.ldg 28 1 false),.N 30 29,.I 31 0] (.block 0 (.loop (f560l0)))) (f560r0))))))
def f560:Qi:=⟨2,42,[.tmp 4,.tmp 5],f560C,false⟩
@[simp] theorem f560B:f560.body=f560C∧f560.res=[.tmp 4,.tmp 5]∧f560.keep=false:=⟨rfl,rfl,rfl⟩
def f561C:AC:= .r [.o 4 (.nilp),.o 5 (.nilp),.I 6 0,.I 7 0] (.r [.M 13 0,.M 14 1,.c 15 562 [.t 13,.t 14],.M 12 15,.E 16 12 0,.E 17 12 1,.E 18 12 2,.M 8 16,.M 9 17,.M 10 18] (.seq (.r [.M 19 10,.C 20 .neq 19 0] (.i 20 (.v [.M 21 10,.o 4 (.nilp),.o 5 (.nilp),.I 6 0,.M 7 21]))) (.r [.I 11 (-1)] (.seq (.r [.M 22 8,.o 23 (.nilck (.t 22)),.o 24 (.fadr 23 3),.o 25 (.ldg 24 1 false),.o 26 (.un .not (.t 25))] (.i 26 (.q [.M 27 8,.M 28 9,.c 29 567 [.t 27,.t 28],.M 11 29]))) (.seq (.r [.M 30 8,.o 31 (.nilck (.t 30)),.o 32 (.fadr 31 3),.o 33 (.ldg 32 1 false)] (.i 33 (.v [.o 4 (.nilp),.o 5 (.nilp),.I 6 0,.I 7 3]))) (.v [.M 34 8,.M 35 9,.M 36 11,.M 4 34,.M 5 35,.M 6 36,.I 7 0]))))))
def f561:Qi:=⟨2,37,[.tmp 4,.tmp 5,.tmp 6,.tmp 7],f561C,true⟩
@[simp] theorem f561B:f561.body=f561C∧f561.res=[.tmp 4,.tmp 5,.tmp 6,.tmp 7]∧f561.keep=true:=⟨rfl,rfl,rfl⟩
def f562l0:AC:= .r [.B 22 .lss 21 20] (.seq (.x 22 0) (.seq (.block 1 (.r [.X 23 1 19 21,.DF 24 23 1,.o 8 (.mvs 24)] (.r [.M 25 8,.c 26 197 [.t 25],.M 9 26] (.r [.M 27 9,.C 28 .neq 27 0] (.i 28 (.v [.M 29 9,.o 4 (.nilp),.o 5 (.nilp),.M 6 29])))))) (.q [.C 30 .add 21 1,.M 21 30])))
def f562l1:AC:= .r [.B 53 .lss 52 51] (.seq (.x 53 2) (.seq (.block 3 (.r [.M 54 52,.X 55 1 50 52,.DF 56 55 1,.M 12 54,.o 13 (.mvs 56)] (.seq (.z [.M 57 11,.o 58 (.nilck (.t 57)),.o 59 (.fadr 58 0),.o 60 (.ldg 59 1 false),.M 61 13,.c 62 563 [.t 60,.t 61],.M 63 0,.N 64 63,.o 65 (.mkp 8 1 [.int .i64 0] (.t 64)),.o 66 (.mkstP 65 [.sl true 1 [],.sl true 1 [],.bool false] [(0,1,.t 62),(1,1,.t 65)]),.o 67 (.gbox (.t 66)),.M 14 67]) (.r [.M 68 14,.o 69 (.nilck (.t 68)),.o 70 (.fadr 69 1),.o 71 (.ldg 70 1 false),.M 72 12,.X 73 1 71 72,.n (.st 73 1 (.i 1))] (.q [.M 74 11,.M 75 11,.o 76 (.nilck (.t 75)),.o 77 (.fadr 76 1),.o 78 (.ldg 77 1 false),.M 79 14,.o 80 (.mksl 1 [.t 79]),.o 81 (.appM 8 1 (.t 78) (.t 80)),.o 82 (.nilck (.t 74)),.o 83 (.fadr 82 1),.n (.st 83 1 (.t 81))]))))) (.q [.C 84 .add 52 1,.M 52 84])))
def f562l2:AC:= .r [.B 91 .lss 90 89] (.seq (.x 91 4) (.seq (.block 5 (.q [.M 92 11,.M 93 11,.o 94 (.nilck (.t 93)),.o 95 (.fadr 94 2),.o 96 (.ldg 95 1 false),.o 97 (.mksl 1 [.i (-1)]),.o 98 (.appM 8 1 (.t 96) (.t 97)),.o 99 (.nilck (.t 92)),.o 100 (.fadr 99 2),.n (.st 100 1 (.t 98))])) (.q [.C 101 .add 90 1,.M 90 101])))
def f562l3:AC:= .r [.B 108 .lss 107 106] (.seq (.x 108 6) (.seq (.block 7 (.r [.M 109 107,.M 15 109] (.q [.M 110 11,.M 111 15,.c 112 564 [.t 110,.t 111]]))) (.q [.C 113 .add 107 1,.M 107 113])))
def f562r0:AC:= .seq (.z [.M 114 11,.M 115 11,.o 116 (.nilck (.t 115)),.o 117 (.fadr 116 0),.o 118 (.ldg 117 1 false),.M 119 1,.c 120 563 [.t 118,.t 119],.M 121 0,.N 122 121,.o 123 (.mkp 8 1 [.int .i64 0] (.t 122)),.o 124 (.mkstP 123 [.sl true 1 [],.sl true 1 [],.bool false] [(0,1,.t 120),(1,1,.t 123)]),.o 125 (.gbox (.t 124)),.M 4 114,.M 5 125,.I 6 0]) (.ret)
def f562r1:AC:= .seq (.r [.M 102 11,.o 103 (.nilck (.t 102)),.o 104 (.fadr 103 0),.o 105 (.ldg 104 1 false),.N 106 105,.I 107 0] (.block 6 (.loop (f562l3)))) (f562r0)
def f562r2:AC:= .seq (.r [.M 85 11,.o 86 (.nilck (.t 85)),.o 87 (.fadr 86 0),.o 88 (.ldg 87 1 false),.N 89 88,.I 90 0] (.block 4 (.loop (f562l2)))) (f562r1)
def f562r3:AC:= .seq (.r [.M 31 1,.c 32 197 [.t 31],.M 10 32] (.r [.M 33 10,.C 34 .neq 33 0] (.i 34 (.v [.M 35 10,.o 4 (.nilp),.o 5 (.nilp),.M 6 35])))) (.r [.M 36 0,.c 37 372 [.t 36],.M 38 1,.o 39 (.mksl 1 [.t 38]),.A 40 24 1 37 39,.c 41 373 [.t 40],.o 42 (.mkst [.sl true 4 [],.gs 0 0 0 0,.gs 0 0 0 0,.bool false] [(0,1,.t 41)]),.o 43 (.gbox (.t 42)),.M 11 43] (.seq (.r [.M 44 11,.o 45 (.nilck (.t 44)),.o 46 (.fadr 45 0),.o 47 (.ldg 46 1 false),.N 48 47,.C 49 .gtr 48 12] (.i 49 (.v [.o 4 (.nilp),.o 5 (.nilp),.I 6 3]))) (.seq (.r [.M 50 0,.N 51 50,.I 52 0] (.block 2 (.loop (f562l1)))) (f562r2))))
def f562C:AC:= .r [.o 4 (.nilp),.o 5 (.nilp),.I 6 0] (.seq (.r [.M 16 0,.N 17 16,.C 18 .gtr 17 12] (.i 18 (.v [.o 4 (.nilp),.o 5 (.nilp),.I 6 3]))) (.seq (.r [.M 19 0,.N 20 19,.I 21 0] (.block 0 (.loop (f562l0)))) (f562r3)))
def f562:Qi:=⟨2,126,[.tmp 4,.tmp 5,.tmp 6],f562C,true⟩
@[simp] theorem f562B:f562.body=f562C∧f562.res=[.tmp 4,.tmp 5,.tmp 6]∧f562.keep=true:=⟨rfl,rfl,rfl⟩
def f563l0:AC:= .r [.B 16 .lss 15 14] (.seq (.x 16 0) (.seq (.block 1 (.r [.X 17 5 13 15,.DT 18 17 5,.o 7 (.alloc [.int .i64 0,.str [],.int .i64 0,.sl true 4 [],.int .i64 0]),.S 7 0 5 18] (.r [.M 20 0,.F 21 7 0,.L 22 7 0 4,.c 23 378 [.t 20,.t 22,.c (.fn 30 [])],.M 19 23,.E 24 19 0,.E 25 19 1,.M 8 24,.M 9 25] (.q [.M 26 5,.M 27 8,.F 28 7 4,.l 29 7 4 1,.X 30 1 26 27,.n (.st 30 1 (.t 29))])))) (.q [.C 31 .add 15 1,.M 15 31])))
def f563r0:AC:= .v [.M 32 5,.M 4 32]
def f563C:AC:= .r [.Z 4 1] (.r [.M 10 0,.N 11 10,.o 12 (.mkg 8 1 [.int .i64 0] (.t 11)),.M 5 12] (.seq (.r [.M 13 1,.N 14 13,.I 15 0] (.block 0 (.loop (f563l0)))) (f563r0)))
def f563:Qi:=⟨2,33,[.tmp 4],f563C,true⟩
@[simp] theorem f563B:f563.body=f563C∧f563.res=[.tmp 4]∧f563.keep=true:=⟨rfl,rfl,rfl⟩
def f564l0:AC:= .r [.B 21 .lss 20 19] (.seq (.x 21 2) (.seq (.block 3 (.r [.M 22 20,.X 23 1 18 20,.o 24 (.ldg 23 1 false),.M 6 22,.M 7 24] (.seq (.r [.M 25 7,.o 26 (.nilck (.t 25)),.o 27 (.fadr 26 2),.o 28 (.ldg 27 1 false),.M 29 28,.g 30 (.m 7) 29 false,.g 31 (.nilck (.t 30)) 29 false,.g 32 (.fadr 31 0) 29 false,.g 33 (.ldg 32 1 false) 29 false,.g 34 (.m 1) 29 false,.g 35 (.idxa 1 (.t 33) (.t 34)) 29 false,.g 36 (.ldg 35 1 false) 29 false,.g 37 (.bin .eql (.t 36) (.i 0)) 29 false,.Q 38 29 37] (.i 38 (.exit 3))) (.r [.M 39 5,.C 40 .add 39 1,.M 5 40] (.seq (.z [.M 41 4,.C 42 .lss 41 0,.M 43 42,.g 44 (.m 7) 43 false,.g 45 (.nilck (.t 44)) 43 false,.g 46 (.fadr 45 0) 43 false,.g 47 (.ldg 46 1 false) 43 false,.g 48 (.m 1) 43 false,.g 49 (.idxa 1 (.t 47) (.t 48)) 43 false,.g 50 (.ldg 49 1 false) 43 false,.g 51 (.callq 565 [.t 50]) 43 false,.g 52 (.m 0) 43 false,.g 53 (.nilck (.t 52)) 43 false,.g 54 (.fadr 53 1) 43 false,.g 55 (.ldg 54 1 false) 43 false,.g 56 (.m 4) 43 false,.g 57 (.idxa 1 (.t 55) (.t 56)) 43 false,.g 58 (.ldg 57 1 false) 43 false,.g 59 (.nilck (.t 58)) 43 false,.g 60 (.fadr 59 0) 43 false,.g 61 (.ldg 60 1 false) 43 false,.g 62 (.m 1) 43 false,.g 63 (.idxa 1 (.t 61) (.t 62)) 43 false,.g 64 (.ldg 63 1 false) 43 false,.g 65 (.call 565 [.t 64]) 43 false,.g 66 (.bin .lss (.t 51) (.t 65)) 43 false,.Q 67 43 66]) (.i 67 (.q [.M 68 6,.M 4 68]))))))) (.q [.C 69 .add 20 1,.M 20 69])))
def f564l1:AC:= .r [.B 96 .lss 95 94] (.seq (.x 96 4) (.seq (.block 5 (.r [.M 97 95,.X 98 1 93 95,.o 99 (.ldg 98 1 false),.M 8 97,.M 9 99] (.r [.M 100 8,.M 101 4,.B 102 .neq 100 101,.M 103 102,.g 104 (.m 9) 103 true,.g 105 (.nilck (.t 104)) 103 true,.g 106 (.fadr 105 2) 103 true,.g 107 (.ldg 106 1 false) 103 true,.g 108 (.un .not (.t 107)) 103 true,.P 109 103 108,.M 110 109,.g 111 (.m 9) 110 true,.g 112 (.nilck (.t 111)) 110 true,.g 113 (.fadr 112 0) 110 true,.g 114 (.ldg 113 1 false) 110 true,.g 115 (.m 1) 110 true,.g 116 (.idxa 1 (.t 114) (.t 115)) 110 true,.g 117 (.ldg 116 1 false) 110 true,.g 118 (.bin .neq (.t 117) (.i 0)) 110 true,.P 119 110 118,.M 120 119,.g 121 (.m 0) 120 true,.g 122 (.nilck (.t 121)) 120 true,.g 123 (.fadr 122 3) 120 true,.g 124 (.ldg 123 1 false) 120 true,.g 125 (.un .not (.t 124)) 120 true,.P 126 120 125] (.i 126 (.z [.M 127 0,.M 128 9,.M 129 0,.o 130 (.nilck (.t 129)),.o 131 (.fadr 130 1),.o 132 (.ldg 131 1 false),.M 133 4,.X 134 1 132 133,.o 135 (.ldg 134 1 false),.M 136 9,.o 137 (.nilck (.t 136)),.o 138 (.fadr 137 0),.o 139 (.ldg 138 1 false),.M 140 1,.X 141 1 139 140,.o 142 (.ldg 141 1 false),.M 143 0,.o 144 (.nilck (.t 143)),.o 145 (.fadr 144 1),.o 146 (.ldg 145 1 false),.M 147 4,.X 148 1 146 147,.o 149 (.ldg 148 1 false),.o 150 (.nilck (.t 149)),.o 151 (.fadr 150 0),.o 152 (.ldg 151 1 false),.M 153 1,.X 154 1 152 153,.o 155 (.ldg 154 1 false),.B 156 .quo 142 155,.c 157 566 [.t 127,.t 128,.t 135,.t 156]]))))) (.q [.C 158 .add 95 1,.M 95 158])))
def f564r0:AC:= .seq (.r [.M 70 5,.C 71 .eql 70 0] (.i 71 (.ret))) (.seq (.r [.M 72 5,.C 73 .eql 72 1] (.i 73 (.r [.M 74 0,.o 75 (.nilck (.t 74)),.o 76 (.fadr 75 2),.o 77 (.ldg 76 1 false),.M 78 1,.M 79 4,.X 80 1 77 78,.n (.st 80 1 (.t 79))] (.v [.M 81 0,.o 82 (.nilck (.t 81)),.o 83 (.fadr 82 1),.o 84 (.ldg 83 1 false),.M 85 4,.X 86 1 84 85,.o 87 (.ldg 86 1 false),.o 88 (.nilck (.t 87)),.o 89 (.fadr 88 2),.n (.st 89 1 (.c (.bool true)))])))) (.r [.M 90 0,.o 91 (.nilck (.t 90)),.o 92 (.fadr 91 1),.o 93 (.ldg 92 1 false),.N 94 93,.I 95 0] (.block 4 (.loop (f564l1)))))
def f564l2:AC:= .seq (.r [.M 10 0,.o 11 (.nilck (.t 10)),.o 12 (.fadr 11 3),.o 13 (.ldg 12 1 false),.o 14 (.un .not (.t 13))] (.x 14 0)) (.block 1 (.r [.I 4 (-1),.I 5 0] (.seq (.r [.M 15 0,.o 16 (.nilck (.t 15)),.o 17 (.fadr 16 1),.o 18 (.ldg 17 1 false),.N 19 18,.I 20 0] (.block 2 (.loop (f564l0)))) (f564r0))))
def f564C:AC:= .block 0 (.loop (f564l2))
def f564:Qi:=⟨2,159,[],f564C,true⟩
@[simp] theorem f564B:f564.body=f564C∧f564.res=[]∧f564.keep=true:=⟨rfl,rfl,rfl⟩
def f565C:AC:= .r [.I 2 0] (.v [.M 3 0,.M 4 0,.o 5 (.un .neg (.t 4)),.o 6 (.mx (.t 3) (.t 5)),.M 2 6])
def f565:Qi:=⟨1,7,[.tmp 2],f565C,false⟩
def f566l0:AC:= .r [.B 40 .lss 39 38] (.seq (.x 40 2) (.seq (.block 3 (.r [.M 41 39,.M 10 41] (.r [.F 42 9 1,.l 43 9 1 1,.M 44 10,.X 45 1 43 44,.o 46 (.ldg 45 1 false),.M 11 46] (.seq (.r [.M 47 11,.C 48 .neq 47 0,.M 49 48,.g 50 (.m 3) 49 true,.g 51 (.call 565 [.t 50]) 49 true,.g 52 (.m 11) 49 true,.g 53 (.call 565 [.t 52]) 49 true,.g 54 (.bin .quo (.i 4611686018427387904) (.t 53)) 49 true,.g 55 (.bin .gtr (.t 51) (.t 54)) 49 true,.P 56 49 55] (.i 56 (.v [.M 57 0,.o 58 (.nilck (.t 57)),.o 59 (.fadr 58 3),.n (.st 59 1 (.c (.bool true)))]))) (.r [.F 60 9 0,.l 61 9 0 1,.M 62 10,.X 63 1 61 62,.o 64 (.ldg 63 1 false),.M 65 3,.M 66 11,.B 67 .mul 65 66,.B 68 .sub 64 67,.X 69 1 61 62,.n (.st 69 1 (.t 68))] (.q [.M 70 0,.M 71 0,.o 72 (.nilck (.t 71)),.o 73 (.fadr 72 3),.o 74 (.ldg 73 1 false),.M 75 74,.g 76 (.fad 9 0) 75 false,.g 77 (.ldf 9 0 1 false) 75 false,.g 78 (.m 10) 75 false,.g 79 (.idxa 1 (.t 77) (.t 78)) 75 false,.g 80 (.ldg 79 1 false) 75 false,.g 81 (.call 565 [.t 80]) 75 false,.g 82 (.bin .gtr (.t 81) (.i 1099511627776)) 75 false,.Q 83 75 82,.o 84 (.nilck (.t 70)),.o 85 (.fadr 84 3),.n (.st 85 1 (.t 83))])))))) (.q [.C 86 .add 39 1,.M 39 86])))
def f566r0:AC:= .q [.C 87 .add 32 1,.M 32 87]
def f566l1:AC:= .r [.B 33 .lss 32 31] (.seq (.x 33 0) (.seq (.block 1 (.r [.X 34 2 30 32,.o 35 (.ldg 34 2 true),.o 9 (.alloc [.sl true 1 [],.sl true 1 []]),.S 9 0 2 35] (.r [.F 36 9 0,.l 37 9 0 1,.N 38 37,.I 39 0] (.block 2 (.loop (f566l0)))))) (f566r0)))
def f566C:AC:= .seq (.z [.M 12 1,.o 13 (.nilck (.t 12)),.o 14 (.fadr 13 0),.o 15 (.ldg 14 1 false),.M 16 2,.o 17 (.nilck (.t 16)),.o 18 (.fadr 17 0),.o 19 (.ldg 18 1 false),.o 20 (.mkst [.sl true 1 [],.sl true 1 []] [(0,1,.t 15),(1,1,.t 19)]),.M 21 1,.o 22 (.nilck (.t 21)),.o 23 (.fadr 22 1),.o 24 (.ldg 23 1 false),.M 25 2,.o 26 (.nilck (.t 25)),.o 27 (.fadr 26 1),.o 28 (.ldg 27 1 false),.o 29 (.mkst [.sl true 1 [],.sl true 1 []] [(0,1,.t 24),(1,1,.t 28)]),.o 30 (.mksg 2 [.t 20,.t 29]),.N 31 30,.I 32 0]) (.block 0 (.loop (f566l1)))
def f566:Qi:=⟨4,88,[],f566C,true⟩
def f567l0:AC:= .r [.B 14 .lss 13 12] (.seq (.x 14 0) (.seq (.block 1 (.r [.M 15 13,.M 5 15] (.r [.M 16 1,.o 17 (.nilck (.t 16)),.o 18 (.fadr 17 0),.o 19 (.ldg 18 1 false),.M 20 5,.X 21 1 19 20,.o 22 (.ldg 21 1 false),.M 6 22] (.seq (.r [.M 23 6,.C 24 .eql 23 0] (.i 24 (.exit 1))) (.seq (.r [.M 25 0,.o 26 (.nilck (.t 25)),.o 27 (.fadr 26 2),.o 28 (.ldg 27 1 false),.M 29 5,.X 30 1 28 29,.o 31 (.ldg 30 1 false),.C 32 .lss 31 0] (.i 32 (.v [.M 33 5,.M 4 33]))) (.seq (.z [.M 34 0,.o 35 (.nilck (.t 34)),.o 36 (.fadr 35 1),.o 37 (.ldg 36 1 false),.M 38 0,.o 39 (.nilck (.t 38)),.o 40 (.fadr 39 2),.o 41 (.ldg 40 1 false),.M 42 5,.X 43 1 41 42,.o 44 (.ldg 43 1 false),.X 45 1 37 44,.o 46 (.ldg 45 1 false),.M 7 46]) (.seq (.r [.M 47 6,.M 48 7,.o 49 (.nilck (.t 48)),.o 50 (.fadr 49 0),.o 51 (.ldg 50 1 false),.M 52 5,.X 53 1 51 52,.o 54 (.ldg 53 1 false),.B 55 .rem 47 54,.C 56 .neq 55 0] (.i 56 (.v [.M 57 5,.M 4 57]))) (.r [.M 58 0,.M 59 1,.M 60 7,.M 61 6,.M 62 7,.o 63 (.nilck (.t 62)),.o 64 (.fadr 63 0),.o 65 (.ldg 64 1 false),.M 66 5,.X 67 1 65 66,.o 68 (.ldg 67 1 false),.B 69 .quo 61 68,.c 70 566 [.t 58,.t 59,.t 60,.t 69]] (.r [.M 71 0,.o 72 (.nilck (.t 71)),.o 73 (.fadr 72 3),.o 74 (.ldg 73 1 false)] (.i 74 (.v [.I 4 (-1)]))))))))))) (.q [.C 75 .add 13 1,.M 13 75])))
def f567r0:AC:= .v [.I 4 (-1)]
def f567C:AC:= .r [.I 4 0] (.seq (.r [.M 8 0,.o 9 (.nilck (.t 8)),.o 10 (.fadr 9 0),.o 11 (.ldg 10 1 false),.N 12 11,.I 13 0] (.block 0 (.loop (f567l0)))) (f567r0))
def f567:Qi:=⟨2,76,[.tmp 4],f567C,true⟩
@[simp] theorem f567B:f567.body=f567C∧f567.res=[.tmp 4]∧f567.keep=true:=⟨rfl,rfl,rfl⟩
def f568C:AC:= .r [.b 3 1,.f 4 false] (.r [.L 8 3 0 4,.c 9 186 [.t 8],.M 7 9,.E 10 7 0,.E 11 7 1,.o 5 (.mvs 10),.M 6 11] (.v [.M 12 6,.C 13 .eql 12 0,.M 14 13,.g 15 (.m 0) 14 true,.g 16 (.m 5) 14 true,.g 17 (.call 555 [.t 15,.t 16]) 14 true,.P 18 14 17,.M 4 18]))
def f568:Qi:=⟨2,19,[.tmp 4],f568C,false⟩
@[simp] theorem f568B:f568.body=f568C∧f568.res=[.tmp 4]∧f568.keep=false:=⟨rfl,rfl,rfl⟩
def f602C:AC:= .r [.f 0 false] (.r [.o 7 (.mksl 1 [.c (.str [101,110,99,40,109,58,97,110,121,44,32,107,58,107,101,121,41]),.c (.str [112,97,105,114,40,110,58,110,111,110,99,101,44,32,107,58,107,101,121,41])]),.o 1 (.mvs 7)] (.r [.o 8 (.mksl 1 [.c (.str [101,120,112,40,103,58,100,97,116,97,44,32,120,58,110,111,110,99,101,41]),.c (.str [121,58,110,111,110,99,101])]),.o 2 (.mvs 8)] (.seq (.r [.M 9 1,.c 10 603 [.c (.str [109,58,97,110,121]),.t 9],.o 11 (.un .not (.t 10)),.M 12 11,.g 13 (.m 1) 12 false,.g 14 (.call 603 [.c (.str [104,97,115,104,40,112,97,105,114,40,109,58,97,110,121,44,32,110,58,110,111,110,99,101,41,41]),.t 13]) 12 false,.g 15 (.un .not (.t 14)) 12 false,.Q 16 12 15,.M 17 16,.g 18 (.m 1) 17 false,.g 19 (.call 603 [.c (.str [108,58,107,101,121]),.t 18]) 17 false,.Q 20 17 19,.M 21 20,.g 22 (.m 2) 21 false,.g 23 (.call 603 [.c (.str [101,120,112,40,103,58,100,97,116,97,44,32,109,117,108,40,120,58,110,111,110,99,101,44,32,121,58,110,111,110,99,101,41,41]),.t 22]) 21 false,.g 24 (.un .not (.t 23)) 21 false,.Q 25 21 24,.M 26 25,.g 27 (.m 2) 26 false,.g 28 (.call 603 [.c (.str [120,58,110,111,110,99,101]),.t 27]) 26 false,.Q 29 26 28] (.i 29 (.v [.f 0 false]))) (.r [.c 31 604 [.c (.str [101,110,99,40,101,110,99,40,109,58,97,110,121,44,32,107,58,107,101,121,41,44,32,108,58,107,101,121,41])],.o 32 (.mksl 4 [.t 31]),.c 33 604 [.c (.str [109,58,97,110,121])],.c 34 605 [.t 32,.t 33],.M 30 34,.E 35 30 0,.E 36 30 1,.o 3 (.mvs 35),.M 4 36] (.r [.c 38 604 [.c (.str [101,110,99,40,109,58,97,110,121,44,32,108,58,107,101,121,41])],.o 39 (.mksl 4 [.t 38]),.c 40 604 [.c (.str [109,58,97,110,121])],.c 41 605 [.t 39,.t 40],.M 37 41,.E 42 37 0,.E 43 37 1,.o 5 (.mvs 42),.M 6 43] (.v [.M 44 4,.C 45 .eql 44 0,.M 46 45,.g 47 (.m 6) 46 true,.g 48 (.bin .eql (.t 47) (.i 0)) 46 true,.P 49 46 48,.M 50 49,.g 51 (.m 3) 50 true,.g 52 (.lenl (.t 51)) 50 true,.g 53 (.bin .eql (.t 52) (.i 0)) 50 true,.P 54 50 53,.M 55 54,.g 56 (.m 5) 55 true,.g 57 (.call 604 [.c (.str [108,58,107,101,121])]) 55 true,.g 58 (.mksl 4 [.t 57]) 55 true,.g 59 (.call 112 [.t 56,.t 58]) 55 true,.P 60 55 59,.M 61 60,.g 62 (.mksl 1 [.c (.str [109,117,108,40,120,58,110,111,110,99,101,44,32,121,58,110,111,110,99,101,41]),.c (.str [121,58,110,111,110,99,101])]) 61 true,.g 63 (.call 603 [.c (.str [120,58,110,111,110,99,101]),.t 62]) 61 true,.P 64 61 63,.M 65 64,.g 66 (.mksl 1 [.c (.str [120,111,114,40,97,58,97,110,121,44,32,98,58,97,110,121,41]),.c (.str [98,58,97,110,121])]) 65 true,.g 67 (.call 603 [.c (.str [97,58,97,110,121]),.t 66]) 65 true,.P 68 65 67,.M 0 68]))))))
def f602:Qi:=⟨0,69,[.tmp 0],f602C,false⟩
def f603l0:AC:= .r [.B 13 .lss 12 11] (.seq (.x 13 0) (.seq (.block 1 (.r [.X 14 1 10 12,.DF 15 14 1,.M 7 15] (.q [.o 16 (.mvs 5),.M 17 7,.c 18 604 [.t 17],.o 19 (.mksl 4 [.t 18]),.A 20 56 4 16 19,.o 5 (.mvs 20)]))) (.q [.C 21 .add 12 1,.M 12 21])))
def f603r0:AC:= .r [.M 23 5,.M 24 0,.c 25 604 [.t 24],.c 26 517 [.t 23,.t 25],.M 22 26,.E 27 22 0,.E 28 22 1,.M 8 27,.M 9 28] (.v [.M 29 8,.M 30 29,.g 31 (.m 9) 30 true,.g 32 (.bin .eql (.t 31) (.i 0)) 30 true,.P 33 30 32,.M 4 33])
def f603C:AC:= .r [.f 4 false] (.r [.Z 5 4] (.seq (.r [.M 10 1,.N 11 10,.I 12 0] (.block 0 (.loop (f603l0)))) (f603r0)))
def f603:Qi:=⟨2,34,[.tmp 4],f603C,false⟩
def f604C:AC:= .r [.T 2] (.r [.M 6 0,.c 7 153 [.t 6],.M 5 7,.E 8 5 0,.E 9 5 1,.T 3,.S 3 0 4 8,.M 4 9] (.v [.L 10 3 0 4,.S 2 0 4 10]))
def f604:Qi:=⟨1,11,[.cell 2 4 true],f604C,false⟩
def f605l0:AC:= .r [.B 30 .lss 29 28] (.seq (.x 30 0) (.seq (.block 1 (.r [.X 31 4 27 29,.DT 32 31 4,.T 11,.S 11 0 4 32] (.seq (.z [.M 33 8,.L 34 3 0 4,.c 35 530 [.t 33,.t 34],.o 36 (.un .not (.t 35)),.M 37 36,.g 38 (.m 8) 37 true,.g 39 (.ldf 11 0 4 true) 37 true,.g 40 (.call 530 [.t 38,.t 39]) 37 true,.g 41 (.un .not (.t 40)) 37 true,.P 42 37 41,.M 43 42,.g 44 (.m 8) 43 true,.g 45 (.ldf 11 0 4 true) 43 true,.g 46 (.call 523 [.t 44,.t 45]) 43 true,.g 47 (.m 6) 43 true,.g 48 (.call 529 [.t 46,.t 47]) 43 true,.g 49 (.ldf 3 0 4 true) 43 true,.g 50 (.call 530 [.t 48,.t 49]) 43 true,.P 51 43 50]) (.i 51 (.q [.o 52 (.mvs 9),.L 53 11 0 4,.o 54 (.mksl 4 [.t 53]),.A 55 56 4 52 54,.o 9 (.mvs 55)]))))) (.q [.C 56 .add 29 1,.M 29 56])))
def f605r0:AC:= .v [.M 57 9,.o 4 (.mvs 57),.I 5 0]
def f605C:AC:= .r [.b 3 1,.Z 4 4,.I 5 0] (.r [.M 13 0,.L 14 3 0 4,.o 15 (.mksl 4 [.t 14]),.c 16 518 [.t 13,.t 15],.M 12 16,.E 17 12 0,.E 18 12 1,.o 6 (.mvs 17),.M 7 18] (.seq (.r [.M 19 7,.C 20 .neq 19 0] (.i 20 (.v [.M 21 7,.Z 4 4,.M 5 21]))) (.r [.M 22 0,.c 23 527 [.t 22],.M 24 6,.c 25 529 [.t 23,.t 24],.o 8 (.mvs 25)] (.r [.Z 9 4] (.seq (.r [.M 26 6,.c 27 606 [.t 26],.N 28 27,.I 29 0] (.block 0 (.loop (f605l0)))) (f605r0))))))
def f605:Qi:=⟨2,58,[.tmp 4,.tmp 5],f605C,false⟩
def f606l0:AC:= .r [.B 11 .lss 10 9] (.seq (.x 11 0) (.seq (.block 1 (.r [.X 12 4 8 10,.DT 13 12 4,.T 5,.S 5 0 4 13] (.r [.L 15 5 0 4,.c 16 418 [.t 15],.M 14 16,.E 17 14 0,.E 18 14 1,.T 6,.S 6 0 4 17,.M 7 18] (.r [.M 19 7,.C 20 .eql 19 0] (.i 20 (.q [.M 21 3,.L 22 6 0 4,.c 23 523 [.t 21,.t 22],.o 3 (.mvs 23)])))))) (.q [.C 24 .add 10 1,.M 10 24])))
def f606r0:AC:= .v [.M 25 3,.o 2 (.mvs 25)]
def f606C:AC:= .r [.Z 2 4] (.r [.Z 3 4] (.seq (.r [.M 8 0,.N 9 8,.I 10 0] (.block 0 (.loop (f606l0)))) (f606r0)))
def f606:Qi:=⟨1,26,[.tmp 2],f606C,false⟩
def f620l0:AC:= .r [.B 8 .lss 7 6] (.seq (.x 8 0) (.seq (.block 1 (.r [.X 9 1 5 7,.DF 10 9 1,.o 4 (.mvs 10)] (.r [.M 11 4,.N 12 11,.C 13 .gtr 12 12] (.i 13 (.v [.f 2 false]))))) (.q [.C 14 .add 7 1,.M 7 14])))
def f620r0:AC:= .v [.M 15 0,.N 16 15,.C 17 .leq 16 5,.M 2 17]
def f620C:AC:= .r [.f 2 false] (.seq (.r [.M 5 0,.N 6 5,.I 7 0] (.block 0 (.loop (f620l0)))) (f620r0))
def f620:Qi:=⟨1,18,[.tmp 2],f620C,false⟩
@[simp] theorem f620B:f620.body=f620C∧f620.res=[.tmp 2]∧f620.keep=false:=⟨rfl,rfl,rfl⟩
def f624l0:AC:= .seq (.r [.M 24 7,.C 25 .geq 24 0] (.x 25 0)) (.seq (.block 1 (.r [.M 28 6,.c 29 193 [.t 28],.M 30 7,.M 31 7,.C 32 .add 31 1,.c 33 727 [.t 29,.t 30,.t 32],.o 8 (.mvs 33)] (.r [.M 35 8,.M 36 6,.M 37 7,.X 38 4 36 37,.DT 39 38 4,.c 40 517 [.t 35,.t 39],.M 34 40,.E 41 34 0,.E 42 34 1,.M 9 41,.M 10 42] (.r [.M 43 9] (.i 43 (.q [.M 44 8,.o 6 (.mvs 44)])))))) (.q [.M 26 7,.C 27 .sub 26 1,.M 7 27]))
def f624r0:AC:= .v [.M 45 6,.o 2 (.mvs 45),.I 3 0]
def f624C:AC:= .r [.Z 2 4,.I 3 0] (.seq (.r [.M 12 0,.c 13 518 [.t 12,.c (.sl true 4 [])],.M 11 13,.E 14 11 0,.E 15 11 1,.o 4 (.mvs 14),.M 5 15] (.r [.M 16 5,.C 17 .neq 16 0] (.i 17 (.v [.M 18 5,.Z 2 4,.M 3 18])))) (.r [.M 19 0,.c 20 407 [.t 19],.o 6 (.mvs 20)] (.seq (.r [.M 21 0,.N 22 21,.C 23 .sub 22 1,.M 7 23] (.block 0 (.loop (f624l0)))) (f624r0))))
def f624:Qi:=⟨1,46,[.tmp 2,.tmp 3],f624C,false⟩
@[simp] theorem f624B:f624.body=f624C∧f624.res=[.tmp 2,.tmp 3]∧f624.keep=false:=⟨rfl,rfl,rfl⟩
def f628l0:AC:= .r [.B 17 .lss 16 15] (.seq (.x 17 0) (.seq (.block 1 (.r [.X 18 1 14 16,.DF 19 18 1,.o 7 (.mvs 19)] (.r [.M 21 7,.c 22 518 [.t 21,.c (.sl true 4 [])],.M 20 22,.E 23 20 0,.E 24 20 1,.o 8 (.mvs 23),.M 9 24] (.r [.M 25 9,.C 26 .neq 25 0] (.i 26 (.v [.M 27 9,.f 4 false,.M 5 27])))))) (.q [.C 28 .add 16 1,.M 16 28])))
def f628r0:AC:= .seq (.r [.M 30 0,.M 31 1,.c 32 629 [.t 30,.t 31],.M 29 32,.E 33 29 0,.E 34 29 1,.M 10 33,.M 11 34] (.r [.M 35 10,.o 36 (.un .not (.t 35)),.M 37 36,.g 38 (.m 11) 37 false,.g 39 (.bin .neq (.t 38) (.i 0)) 37 false,.Q 40 37 39] (.i 40 (.v [.M 41 11,.f 4 false,.M 5 41])))) (.v [.M 42 1,.M 43 0,.c 44 629 [.t 42,.t 43],.E 45 44 0,.E 46 44 1,.M 4 45,.M 5 46])
def f628C:AC:= .r [.f 4 false,.I 5 0] (.seq (.r [.M 12 0,.M 13 1,.o 14 (.mksl 1 [.t 12,.t 13]),.N 15 14,.I 16 0] (.block 0 (.loop (f628l0)))) (f628r0))
def f628:Qi:=⟨2,47,[.tmp 4,.tmp 5],f628C,false⟩
@[simp] theorem f628B:f628.body=f628C∧f628.res=[.tmp 4,.tmp 5]∧f628.keep=false:=⟨rfl,rfl,rfl⟩
def f629l0:AC:= .r [.B 13 .lss 12 11] (.seq (.x 13 0) (.seq (.block 1 (.r [.X 14 4 10 12,.DT 15 14 4,.T 7,.S 7 0 4 15] (.r [.M 17 0,.L 18 7 0 4,.c 19 517 [.t 17,.t 18],.M 16 19,.E 20 16 0,.E 21 16 1,.M 8 20,.M 9 21] (.r [.M 22 8,.o 23 (.un .not (.t 22)),.M 24 23,.g 25 (.m 9) 24 false,.g 26 (.bin .neq (.t 25) (.i 0)) 24 false,.Q 27 24 26] (.i 27 (.v [.M 28 9,.f 4 false,.M 5 28])))))) (.q [.C 29 .add 12 1,.M 12 29])))
def f629r0:AC:= .v [.f 4 true,.I 5 0]
def f629C:AC:= .r [.f 4 false,.I 5 0] (.seq (.r [.M 10 1,.N 11 10,.I 12 0] (.block 0 (.loop (f629l0)))) (f629r0))
def f629:Qi:=⟨2,30,[.tmp 4,.tmp 5],f629C,false⟩
@[simp] theorem f629B:f629.body=f629C∧f629.res=[.tmp 4,.tmp 5]∧f629.keep=false:=⟨rfl,rfl,rfl⟩
def f727C:AC:= .r [.Z 6 4] (.r [.M 8 0,.M 9 1,.M 10 2,.M 11 0,.N 12 11,.o 13 (.slcc 4 (.t 8) (some (.t 9)) (.t 10) (.t 12))] (.seq (.r [.M 14 1,.M 15 2,.B 16 .eql 14 15] (.i 16 (.v [.M 17 0,.o 6 (.frz 17 4)]))) (.r [.M 18 0,.N 19 18,.M 7 19] (.seq (.z [.M 20 0,.M 21 1,.o 22 (.slcl 4 (.t 20) none (some (.t 21))),.M 23 0,.M 24 2,.o 25 (.slcl 4 (.t 23) (some (.t 24)) none),.o 26 (.appM 56 4 (.t 22) (.t 25)),.M 0 26]) (.r [.M 27 0,.M 28 0,.N 29 28,.M 30 7,.o 31 (.slcx 4 (.t 27) (some (.t 29)) (some (.t 30))),.n (.clr 4 (.t 31))] (.v [.M 32 0,.o 6 (.frz 32 4)]))))))
def f727:Qi:=⟨3,33,[.tmp 6],f727C,false⟩
@[simp] theorem f727B:f727.body=f727C∧f727.res=[.tmp 6]∧f727.keep=false:=⟨rfl,rfl,rfl⟩
def f732C:AC:= .r [.f 6 false] (.seq (.r [.c 20 602 [],.o 21 (.un .not (.t 20)),.M 22 21,.g 23 (.m 0) 22 false,.g 24 (.call 620 [.t 23]) 22 false,.g 25 (.un .not (.t 24)) 22 false,.Q 26 22 25,.M 27 26,.g 28 (.m 1) 27 false,.g 29 (.lenl (.t 28)) 27 false,.g 30 (.bin .gtr (.t 29) (.i 12)) 27 false,.Q 31 27 30,.M 32 31,.g 33 (.m 2) 32 false,.g 34 (.lenl (.t 33)) 32 false,.g 35 (.bin .gtr (.t 34) (.i 12)) 32 false,.Q 36 32 35] (.i 36 (.v [.c 37 602 [],.M 6 37]))) (.r [.M 38 0,.c 39 281 [.t 38,.c (.bool true)],.M 40 1,.c 41 282 [.t 40,.c (.bool true)],.M 42 2,.c 43 282 [.t 42,.c (.bool true)],.T 8,.T 9,.o 7 (.mvs 39),.S 8 0 4 41,.S 9 0 4 43] (.r [.M 45 7,.L 46 8 0 4,.c 47 517 [.t 45,.t 46],.M 44 47,.E 48 44 0,.E 49 44 1,.M 10 48,.M 11 49] (.seq (.z [.M 51 7,.c 52 407 [.t 51],.L 53 8 0 4,.o 54 (.mksl 4 [.t 53]),.A 55 56 4 52 54,.L 56 9 0 4,.c 57 517 [.t 55,.t 56],.M 50 57,.E 58 50 0,.E 59 50 1,.M 12 58,.M 13 59]) (.r [.M 61 7,.L 62 9 0 4,.c 63 517 [.t 61,.t 62],.M 60 63,.E 64 60 0,.E 65 60 1,.M 14 64,.M 15 65] (.r [.M 67 7,.c 68 624 [.t 67],.M 66 68,.E 69 66 0,.E 70 66 1,.o 16 (.mvs 69),.M 17 70] (.seq (.r [.M 71 11,.C 72 .neq 71 0,.M 73 72,.g 74 (.m 13) 73 false,.g 75 (.bin .neq (.t 74) (.i 0)) 73 false,.Q 76 73 75,.M 77 76,.g 78 (.m 15) 77 false,.g 79 (.bin .neq (.t 78) (.i 0)) 77 false,.Q 80 77 79,.M 81 80,.g 82 (.m 17) 81 false,.g 83 (.bin .neq (.t 82) (.i 0)) 81 false,.Q 84 81 83,.M 85 84,.g 86 (.m 10) 85 false,.g 87 (.m 86) 85 false,.g 88 (.m 12) 87 true,.g 89 (.pick (.t 87) (.t 88) (.c (.bool false))) 85 false,.g 90 (.m 89) 85 false,.g 91 (.m 14) 90 true,.g 92 (.un .not (.t 91)) 90 true,.g 93 (.pick (.t 90) (.t 92) (.c (.bool false))) 85 false,.Q 94 85 93] (.i 94 (.v [.f 6 false]))) (.r [.M 96 7,.M 97 16,.c 98 628 [.t 96,.t 97],.M 95 98,.E 99 95 0,.E 100 95 1,.M 18 99,.M 19 100] (.v [.M 101 19,.C 102 .eql 101 0,.M 103 102,.g 104 (.m 18) 103 true,.P 105 103 104,.M 106 105,.g 107 (.m 16) 106 true,.g 108 (.lenl (.t 107)) 106 true,.g 109 (.m 7) 106 true,.g 110 (.lenl (.t 109)) 106 true,.g 111 (.bin .leq (.t 108) (.t 110)) 106 true,.P 112 106 111,.M 6 112])))))))))
def f732:Qi:=⟨3,113,[.tmp 6],f732C,false⟩
@[simp] theorem f732B:f732.body=f732C∧f732.res=[.tmp 6]∧f732.keep=false:=⟨rfl,rfl,rfl⟩
def tbL:List (Nat×AFn):=[(6,.code f6),(7,.code f7),(8,.code f8),(9,.code f9),(30,.code f30),(31,.code f31),(32,.code f32),(33,.orc (XQ O1)),(41,.code f41),(42,.code f42),(43,.code f43),(44,.code f44),(45,.code f45),(46,.code f46),(47,.code f47),(48,.code f48),(49,.code f49),(54,.code f54),(55,.code f55),(56,.code f56),(57,.code f57),(58,.code f58),(59,.code f59),(60,.code f60),(61,.code f61),(63,.code f63),(71,.code f71),(73,.code f73),(74,.code f74),(75,.code f75),(89,.code f89),(90,.code f90),(91,.code f91),(107,.code f107),(112,.code f112),(120,.code f120),(126,.code f126),(127,.code f127),(128,.code f128),(129,.code f129),(130,.code f130),(131,.code f131),(132,.code f132),(153,.code f153),(154,.code f154),(155,.code f155),(156,.code f156),(159,.code f159),(160,.code f160),(161,.code f161),(162,.code f162),(163,.code f163),(164,.orc (XQ Mo)),(165,.code f165),(166,.code f166),(167,.code f167),(168,.code f168),(169,.code f169),(170,.orc T0),(171,.code f171),(172,.code f172),(173,.code f173),(174,.code f174),(175,.code f175),(176,.code f176),(177,.code f177),(178,.code f178),(179,.code f179),(180,.code f180),(181,.orc (Ot 56 4)),(182,.code f182),(183,.code f183),(184,.code f184),(185,.code f185),(186,.code f186),(187,.code f187),(188,.code f188),(189,.code f189),(190,.code f190),(191,.code f191),(192,.code f192),(193,.orc (Yc true 56 4)),(194,.orc (T8 true 64 5)),(195,.code f195),(196,.code f196),(197,.code f197),(198,.code f198),(199,.code f199),(200,.code f200),(201,.code f201),(202,.code f202),(203,.code f203),(204,.code f204),(205,.code f205),(206,.code f206),(207,.code f207),(214,.code f214),(215,.code f215),(237,.code f237),(239,.code f239),(240,.code f240),(241,.code f241),(242,.code f242),(243,.code f243),(244,.code f244),(245,.code f245),(246,.code f246),(247,.code f247),(248,.code f248),(249,.code f249),(250,.code f250),(251,.code f251),(252,.code f252),(253,.code f253),(254,.code f254),(255,.code f255),(256,.code f256),(257,.code f257),(258,.code f258),(259,.code f259),(260,.code f260),(261,.code f261),(262,.code f262),(263,.code f263),(281,.code f281),(282,.code f282),(283,.code f283),(284,.code f284),(363,.code f363),(372,.orc (Yc false 24 1)),(373,.code f373),(375,.code f375),(378,.code f378),(407,.orc (Yc false 56 4)),(418,.code f418),(497,.code f497),(511,.code f511),(512,.code f512),(517,.code f517),(518,.code f518),(519,.code f519),(520,.code f520),(521,.code f521),(522,.code f522),(523,.code f523),(524,.code f524),(525,.orc (Yc true 56 4)),(526,.orc (T8 true 56 4)),(527,.code f527),(528,.code f528),(529,.code f529),(530,.code f530),(531,.code f531),(532,.code f532),(533,.code f533),(534,.code f534),(535,.code f535),(536,.code f536),(537,.code f537),(538,.code f538),(539,.code f539),(540,.code f540),(541,.code f541),(542,.code f542),(543,.code f543),(544,.code f544),(545,.code f545),(546,.code f546),(547,.code f547),(548,.code f548),(549,.code f549),(550,.code f550),(551,.code f551),(552,.code f552),(553,.code f553),(554,.code f554),(555,.code f555),(556,.code f556),(557,.orc (Yc true 64 5)),(558,.code f558),(559,.code f559),(560,.code f560),(561,.code f561),(562,.code f562),(563,.code f563),(564,.code f564),(565,.code f565),(566,.code f566),(567,.code f567),(568,.code f568),(602,.code f602),(603,.code f603),(604,.code f604),(605,.code f605),(606,.code f606),(620,.code f620),(624,.code f624),(628,.code f628),(629,.code f629),(727,.code f727),(732,.code f732)]
def tb:Nat→Option AFn:=fun f=>tbL.lookup f
theorem tb_6:tb 6=some (.code f6):=rfl
theorem tb_7:tb 7=some (.code f7):=rfl
theorem tb_8:tb 8=some (.code f8):=rfl
theorem tb_9:tb 9=some (.code f9):=rfl
theorem tb_30:tb 30=some (.code f30):=rfl
theorem tb_31:tb 31=some (.code f31):=rfl
theorem tb_32:tb 32=some (.code f32):=rfl
theorem tb_33:tb 33=some (.orc (XQ O1)):=rfl
theorem tb_41:tb 41=some (.code f41):=rfl
theorem tb_42:tb 42=some (.code f42):=rfl
theorem tb_43:tb 43=some (.code f43):=rfl
theorem tb_44:tb 44=some (.code f44):=rfl
theorem tb_45:tb 45=some (.code f45):=rfl
theorem tb_46:tb 46=some (.code f46):=rfl
theorem tb_47:tb 47=some (.code f47):=rfl
theorem tb_48:tb 48=some (.code f48):=rfl
theorem tb_49:tb 49=some (.code f49):=rfl
theorem tb_54:tb 54=some (.code f54):=rfl
theorem tb_55:tb 55=some (.code f55):=rfl
theorem tb_56:tb 56=some (.code f56):=rfl
theorem tb_57:tb 57=some (.code f57):=rfl
theorem tb_58:tb 58=some (.code f58):=rfl
theorem tb_59:tb 59=some (.code f59):=rfl
theorem tb_60:tb 60=some (.code f60):=rfl
theorem tb_61:tb 61=some (.code f61):=rfl
theorem tb_71:tb 71=some (.code f71):=rfl
theorem tb_73:tb 73=some (.code f73):=rfl
theorem tb_74:tb 74=some (.code f74):=rfl
theorem tb_75:tb 75=some (.code f75):=rfl
theorem tb_89:tb 89=some (.code f89):=rfl
theorem tb_90:tb 90=some (.code f90):=rfl
theorem tb_91:tb 91=some (.code f91):=rfl
theorem tb_107:tb 107=some (.code f107):=rfl
theorem tb_120:tb 120=some (.code f120):=rfl
theorem tb_126:tb 126=some (.code f126):=rfl
theorem tb_127:tb 127=some (.code f127):=rfl
theorem tb_128:tb 128=some (.code f128):=rfl
theorem tb_129:tb 129=some (.code f129):=rfl
theorem tb_130:tb 130=some (.code f130):=rfl
theorem tb_131:tb 131=some (.code f131):=rfl
theorem tb_132:tb 132=some (.code f132):=rfl
theorem tb_159:tb 159=some (.code f159):=rfl
theorem tb_160:tb 160=some (.code f160):=rfl
theorem tb_161:tb 161=some (.code f161):=rfl
theorem tb_162:tb 162=some (.code f162):=rfl
theorem tb_163:tb 163=some (.code f163):=rfl
theorem tb_164:tb 164=some (.orc (XQ Mo)):=rfl
theorem tb_165:tb 165=some (.code f165):=rfl
theorem tb_166:tb 166=some (.code f166):=rfl
theorem tb_167:tb 167=some (.code f167):=rfl
theorem tb_168:tb 168=some (.code f168):=rfl
theorem tb_169:tb 169=some (.code f169):=rfl
theorem tb_170:tb 170=some (.orc T0):=rfl
theorem tb_171:tb 171=some (.code f171):=rfl
theorem tb_172:tb 172=some (.code f172):=rfl
theorem tb_173:tb 173=some (.code f173):=rfl
theorem tb_174:tb 174=some (.code f174):=rfl
theorem tb_175:tb 175=some (.code f175):=rfl
theorem tb_176:tb 176=some (.code f176):=rfl
theorem tb_177:tb 177=some (.code f177):=rfl
theorem tb_178:tb 178=some (.code f178):=rfl
theorem tb_179:tb 179=some (.code f179):=rfl
theorem tb_180:tb 180=some (.code f180):=rfl
theorem tb_181:tb 181=some (.orc (Ot 56 4)):=rfl
theorem tb_182:tb 182=some (.code f182):=rfl
theorem tb_183:tb 183=some (.code f183):=rfl
theorem tb_184:tb 184=some (.code f184):=rfl
theorem tb_185:tb 185=some (.code f185):=rfl
theorem tb_186:tb 186=some (.code f186):=rfl
theorem tb_187:tb 187=some (.code f187):=rfl
theorem tb_188:tb 188=some (.code f188):=rfl
theorem tb_189:tb 189=some (.code f189):=rfl
theorem tb_190:tb 190=some (.code f190):=rfl
theorem tb_191:tb 191=some (.code f191):=rfl
theorem tb_192:tb 192=some (.code f192):=rfl
theorem tb_193:tb 193=some (.orc (Yc true 56 4)):=rfl
theorem tb_194:tb 194=some (.orc (T8 true 64 5)):=rfl
theorem tb_195:tb 195=some (.code f195):=rfl
theorem tb_196:tb 196=some (.code f196):=rfl
theorem tb_197:tb 197=some (.code f197):=rfl
theorem tb_198:tb 198=some (.code f198):=rfl
theorem tb_199:tb 199=some (.code f199):=rfl
theorem tb_200:tb 200=some (.code f200):=rfl
theorem tb_201:tb 201=some (.code f201):=rfl
theorem tb_202:tb 202=some (.code f202):=rfl
theorem tb_203:tb 203=some (.code f203):=rfl
theorem tb_204:tb 204=some (.code f204):=rfl
theorem tb_205:tb 205=some (.code f205):=rfl
theorem tb_206:tb 206=some (.code f206):=rfl
theorem tb_207:tb 207=some (.code f207):=rfl
theorem tb_214:tb 214=some (.code f214):=rfl
theorem tb_215:tb 215=some (.code f215):=rfl
theorem tb_237:tb 237=some (.code f237):=rfl
theorem tb_239:tb 239=some (.code f239):=rfl
theorem tb_240:tb 240=some (.code f240):=rfl
theorem tb_241:tb 241=some (.code f241):=rfl
theorem tb_242:tb 242=some (.code f242):=rfl
theorem tb_243:tb 243=some (.code f243):=rfl
theorem tb_244:tb 244=some (.code f244):=rfl
theorem tb_245:tb 245=some (.code f245):=rfl
theorem tb_246:tb 246=some (.code f246):=rfl
theorem tb_247:tb 247=some (.code f247):=rfl
theorem tb_248:tb 248=some (.code f248):=rfl
theorem tb_249:tb 249=some (.code f249):=rfl
theorem tb_250:tb 250=some (.code f250):=rfl
theorem tb_251:tb 251=some (.code f251):=rfl
theorem tb_252:tb 252=some (.code f252):=rfl
theorem tb_253:tb 253=some (.code f253):=rfl
theorem tb_254:tb 254=some (.code f254):=rfl
theorem tb_255:tb 255=some (.code f255):=rfl
theorem tb_256:tb 256=some (.code f256):=rfl
theorem tb_257:tb 257=some (.code f257):=rfl
theorem tb_258:tb 258=some (.code f258):=rfl
theorem tb_259:tb 259=some (.code f259):=rfl
theorem tb_260:tb 260=some (.code f260):=rfl
theorem tb_261:tb 261=some (.code f261):=rfl
theorem tb_262:tb 262=some (.code f262):=rfl
theorem tb_263:tb 263=some (.code f263):=rfl
theorem tb_281:tb 281=some (.code f281):=rfl
theorem tb_282:tb 282=some (.code f282):=rfl
theorem tb_283:tb 283=some (.code f283):=rfl
theorem tb_284:tb 284=some (.code f284):=rfl
theorem tb_372:tb 372=some (.orc (Yc false 24 1)):=rfl
theorem tb_373:tb 373=some (.code f373):=rfl
theorem tb_375:tb 375=some (.code f375):=rfl
theorem tb_378:tb 378=some (.code f378):=rfl
theorem tb_407:tb 407=some (.orc (Yc false 56 4)):=rfl
theorem tb_418:tb 418=some (.code f418):=rfl
theorem tb_497:tb 497=some (.code f497):=rfl
theorem tb_511:tb 511=some (.code f511):=rfl
theorem tb_512:tb 512=some (.code f512):=rfl
theorem tb_517:tb 517=some (.code f517):=rfl
theorem tb_518:tb 518=some (.code f518):=rfl
theorem tb_519:tb 519=some (.code f519):=rfl
theorem tb_520:tb 520=some (.code f520):=rfl
theorem tb_521:tb 521=some (.code f521):=rfl
theorem tb_522:tb 522=some (.code f522):=rfl
theorem tb_523:tb 523=some (.code f523):=rfl
theorem tb_524:tb 524=some (.code f524):=rfl
theorem tb_525:tb 525=some (.orc (Yc true 56 4)):=rfl
theorem tb_526:tb 526=some (.orc (T8 true 56 4)):=rfl
theorem tb_527:tb 527=some (.code f527):=rfl
theorem tb_528:tb 528=some (.code f528):=rfl
theorem tb_529:tb 529=some (.code f529):=rfl
theorem tb_530:tb 530=some (.code f530):=rfl
theorem tb_531:tb 531=some (.code f531):=rfl
theorem tb_532:tb 532=some (.code f532):=rfl
theorem tb_533:tb 533=some (.code f533):=rfl
theorem tb_534:tb 534=some (.code f534):=rfl
theorem tb_535:tb 535=some (.code f535):=rfl
theorem tb_536:tb 536=some (.code f536):=rfl
theorem tb_537:tb 537=some (.code f537):=rfl
theorem tb_538:tb 538=some (.code f538):=rfl
theorem tb_539:tb 539=some (.code f539):=rfl
theorem tb_540:tb 540=some (.code f540):=rfl
theorem tb_541:tb 541=some (.code f541):=rfl
theorem tb_542:tb 542=some (.code f542):=rfl
theorem tb_543:tb 543=some (.code f543):=rfl
theorem tb_544:tb 544=some (.code f544):=rfl
theorem tb_545:tb 545=some (.code f545):=rfl
theorem tb_546:tb 546=some (.code f546):=rfl
theorem tb_547:tb 547=some (.code f547):=rfl
theorem tb_548:tb 548=some (.code f548):=rfl
theorem tb_549:tb 549=some (.code f549):=rfl
theorem tb_550:tb 550=some (.code f550):=rfl
theorem tb_551:tb 551=some (.code f551):=rfl
theorem tb_552:tb 552=some (.code f552):=rfl
theorem tb_553:tb 553=some (.code f553):=rfl
theorem tb_554:tb 554=some (.code f554):=rfl
theorem tb_555:tb 555=some (.code f555):=rfl
theorem tb_556:tb 556=some (.code f556):=rfl
theorem tb_557:tb 557=some (.orc (Yc true 64 5)):=rfl
theorem tb_558:tb 558=some (.code f558):=rfl
theorem tb_559:tb 559=some (.code f559):=rfl
theorem tb_560:tb 560=some (.code f560):=rfl
theorem tb_561:tb 561=some (.code f561):=rfl
theorem tb_562:tb 562=some (.code f562):=rfl
theorem tb_563:tb 563=some (.code f563):=rfl
theorem tb_564:tb 564=some (.code f564):=rfl
theorem tb_567:tb 567=some (.code f567):=rfl
theorem tb_568:tb 568=some (.code f568):=rfl
theorem tb_620:tb 620=some (.code f620):=rfl
theorem tb_624:tb 624=some (.code f624):=rfl
theorem tb_628:tb 628=some (.code f628):=rfl
theorem tb_629:tb 629=some (.code f629):=rfl
theorem tb_727:tb 727=some (.code f727):=rfl
theorem tb_732:tb 732=some (.code f732):=rfl
end Go.Am.F
