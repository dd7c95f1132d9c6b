/-
  AmCode.
-/
import Derived.Test.YtpgbndmkiiakaaaGreatDoorG08
import Derived.Test.YtpgbndmkiiakaaaGreatDoorG11
import Derived.Test.YtpgbndmkiiakaaaGreatDoorG12
set_option linter.unusedVariables false
set_option linter.unusedSimpArgs false
namespace Go.Am
abbrev Qs.o (d:Nat) (x:AOp):Qs:=⟨some d,x,none⟩
abbrev Qs.n (x:AOp):Qs:=⟨none,x,none⟩
abbrev Qs.g (d:Nat) (x:AOp) (t:Nat) (b:Bool):Qs:=⟨some d,x,some (t,b)⟩
abbrev AOp.m (n:Nat):AOp:= .mov (.t n)
abbrev AO.i (n:Int):AO:= .c (.int .i64 n)
abbrev Qs.M (d n:Nat):Qs:=⟨some d,.mov (.t n),none⟩
abbrev Qs.I (d:Nat) (n:Int):Qs:=⟨some d,.mov (.c (.int .i64 n)),none⟩
abbrev Qs.L (d s o z:Nat):Qs:=⟨some d,.ldf s o z true,none⟩
abbrev Qs.l (d s o z:Nat):Qs:=⟨some d,.ldf s o z false,none⟩
abbrev Qs.P (d c a:Nat):Qs:=⟨some d,.pick (.t c) (.t a) (.c (.bool false)),none⟩
abbrev Qs.Q (d c b:Nat):Qs:=⟨some d,.pick (.t c) (.c (.bool true)) (.t b),none⟩
abbrev Qs.S (s o z n:Nat):Qs:=⟨none,.stf s o z (.t n),none⟩
abbrev Qs.X (d z s i:Nat):Qs:=⟨some d,.idxa z (.t s) (.t i),none⟩
abbrev Qs.DT (d p z:Nat):Qs:=⟨some d,.ld p z true,none⟩
abbrev Qs.DF (d p z:Nat):Qs:=⟨some d,.ld p z false,none⟩
abbrev Qs.F (d s o:Nat):Qs:=⟨some d,.fad s o,none⟩
abbrev Qs.B (d:Nat) (p:BinOp) (x y:Nat):Qs:=⟨some d,.bin p (.t x) (.t y),none⟩
abbrev Qs.C (d:Nat) (p:BinOp) (x:Nat) (n:Int):Qs:=⟨some d,.bin p (.t x) (.c (.int .i64 n)),none⟩
abbrev Qs.N (d x:Nat):Qs:=⟨some d,.lenl (.t x),none⟩
abbrev Qs.E (d x i:Nat):Qs:=⟨some d,.ext (.t x) i,none⟩
abbrev Qs.b (d x:Nat):Qs:=⟨some d,.box (.t x),none⟩
abbrev Qs.f (d:Nat) (b:Bool):Qs:=⟨some d,.mov (.c (.bool b)),none⟩
abbrev Qs.A (d b z s x:Nat):Qs:=⟨some d,.app b z (.t s) (.t x),none⟩
abbrev Qs.T (d:Nat):Qs:=⟨some d,.alloc [.int .i64 0,.str [],.int .i64 0,.sl true 4 []],none⟩
abbrev AC.r (l:List Qs) (x:AC):AC:= .seq (.reg false l) x
abbrev AC.i (n:Nat) (x:AC):AC:= .cond (.t n) x .skip
abbrev Qs.Z (d k:Nat):Qs:=⟨some d,.mov (.c (.sl true k [])),none⟩
abbrev Qs.c (d f:Nat) (l:List AO):Qs:=⟨some d,.call f l,none⟩
abbrev AC.v (l:List Qs):AC:= .seq (.reg false l) .ret
abbrev AC.x (n i:Nat):AC:= .cond (.t n) .skip (.exit i)
abbrev AC.q (l:List Qs):AC:= .reg false l
abbrev AC.z (l:List Qs):AC:= .reg true l
abbrev zT:List AV:=[.int .i64 0,.str [],.int .i64 0,.sl true 4 []]
abbrev zG:List AV:=[.int .i64 0,.str [],.int .i64 0,.gs 0 0 0 0]
end Go.Am
namespace Go.Am.F
def f6C:AC:= .r [.b 1 0,.I 2 0] (.r [.o 3 (.galloc [.int .i64 0]),.o 4 (.galloc [.int .i64 0]),.n (.st 3 1 (.i 0)),.n (.st 4 1 (.i 0))] (.seq (.r [.L 6 1 0 4,.c 7 7 [.t 6,.i 1,.t 3,.t 4],.M 5 7] (.r [.M 8 5,.C 9 .neq 8 0] (.i 9 (.v [.M 10 5,.M 2 10])))) (.seq (.r [.o 11 (.ldg 3 1 false),.C 12 .gtr 11 400,.M 13 12,.g 14 (.ldg 4 1 false) 13 false,.g 15 (.bin .gtr (.t 14) (.i 40)) 13 false,.Q 16 13 15] (.i 16 (.v [.I 2 3]))) (.v [.I 2 0]))))
def f6:Qk:=⟨1,17,[.tmp 2],f6C,false⟩
@[simp] theorem f6B:f6.body=f6C∧f6.res=[.tmp 2]∧f6.keep=false:=⟨rfl,rfl,rfl⟩
def f7l0:AC:= .r [.B 60 .lss 59 58] (.seq (.x 60 1) (.seq (.block 2 (.r [.X 61 4 57 59,.DT 62 61 4,.T 10,.S 10 0 4 62] (.r [.L 63 10 0 4,.M 64 1,.C 65 .add 64 1,.M 66 2,.M 67 3,.c 68 7 [.t 63,.t 65,.t 66,.t 67],.M 11 68] (.r [.M 69 11,.C 70 .neq 69 0] (.i 70 (.v [.M 71 11,.M 8 71])))))) (.q [.C 72 .add 59 1,.M 59 72])))
def f7r0:AC:= .v [.I 8 0]
def f7C:AC:= .r [.b 4 0,.I 8 0] (.r [.M 12 2,.o 13 (.nilck (.t 12)),.o 14 (.ldg 13 1 false),.C 15 .add 14 1,.o 16 (.nilck (.t 12)),.n (.st 16 1 (.t 15))] (.r [.M 17 3,.M 18 3,.o 19 (.nilck (.t 18)),.o 20 (.ldg 19 1 false),.M 21 1,.o 22 (.mx (.t 20) (.t 21)),.o 23 (.nilck (.t 17)),.n (.st 23 1 (.t 22))] (.seq (.r [.F 24 4 0,.l 25 4 0 1] (.block 0 (.seq (.r [.C 27 .eql 25 1,.M 26 27] (.cond (.t 26) (.skip) (.q [.C 28 .eql 25 2,.M 26 28]))) (.cond (.t 26) (.r [.F 29 4 2,.l 30 4 2 1,.C 31 .lss 30 0,.M 32 31,.g 33 (.fad 4 2) 32 false,.g 34 (.ldf 4 2 1 false) 32 false,.g 35 (.bin .gtr (.t 34) (.i 5)) 32 false,.Q 36 32 35,.M 37 36,.g 38 (.fad 4 3) 37 false,.g 39 (.ldf 4 3 1 false) 37 false,.g 40 (.lenl (.t 39)) 37 false,.g 41 (.bin .gtr (.t 40) (.i 0)) 37 false,.Q 42 37 41] (.i 42 (.v [.I 8 1]))) (.r [.C 44 .eql 25 3,.M 43 44] (.cond (.t 43) (.r [.F 45 4 2,.l 46 4 2 1,.C 47 .neq 46 0] (.i 47 (.v [.I 8 1]))) (.v [.I 8 1]))))))) (.seq (.r [.F 48 4 1,.l 49 4 1 1,.c 50 8 [.t 49],.o 51 (.un .not (.t 50))] (.i 51 (.v [.I 8 2]))) (.seq (.r [.F 52 4 3,.l 53 4 3 1,.N 54 53,.C 55 .gtr 54 8] (.i 55 (.v [.I 8 3]))) (.seq (.r [.F 56 4 3,.l 57 4 3 1,.N 58 57,.I 59 0] (.block 1 (.loop (f7l0)))) (f7r0)))))))
def f7:Qk:=⟨4,73,[.tmp 8],f7C,false⟩
@[simp] theorem f7B:f7.body=f7C∧f7.res=[.tmp 8]∧f7.keep=false:=⟨rfl,rfl,rfl⟩
def f8l0:AC:= .r [.B 40 .lss 39 38] (.seq (.x 40 0) (.seq (.block 1 (.r [.M 41 39,.M 3 41] (.r [.M 42 0,.M 43 3,.o 44 (.idx (.t 42) (.t 43)),.c 45 9 [.t 44],.o 46 (.un .not (.t 45))] (.i 46 (.v [.f 2 false]))))) (.q [.C 47 .add 39 1,.M 39 47])))
def f8r0:AC:= .v [.f 2 true]
def f8C:AC:= .r [.f 2 false] (.seq (.r [.M 4 0,.o 5 (.bin .eql (.t 4) (.c (.str []))),.M 6 5,.g 7 (.m 0) 6 false,.g 8 (.lens (.t 7)) 6 false,.g 9 (.bin .gtr (.t 8) (.i 24)) 6 false,.Q 10 6 9,.M 11 10,.g 12 (.m 0) 11 false,.g 13 (.idx (.t 12) (.i 0)) 11 false,.g 14 (.call 9 [.t 13]) 11 false,.g 15 (.un .not (.t 14)) 11 false,.Q 16 11 15,.M 17 16,.g 18 (.m 0) 17 false,.g 19 (.idx (.t 18) (.i 0)) 17 false,.g 20 (.bin .geq (.t 19) (.c (.int .u8 48))) 17 false,.g 21 (.m 20) 17 false,.g 22 (.m 0) 21 true,.g 23 (.idx (.t 22) (.i 0)) 21 true,.g 24 (.bin .leq (.t 23) (.c (.int .u8 57))) 21 true,.g 25 (.pick (.t 21) (.t 24) (.c (.bool false))) 17 false,.Q 26 17 25,.M 27 26,.g 28 (.m 0) 27 false,.g 29 (.idx (.t 28) (.i 0)) 27 false,.g 30 (.bin .eql (.t 29) (.c (.int .u8 95))) 27 false,.Q 31 27 30,.M 32 31,.g 33 (.m 0) 32 false,.g 34 (.idx (.t 33) (.i 0)) 32 false,.g 35 (.bin .eql (.t 34) (.c (.int .u8 35))) 32 false,.Q 36 32 35] (.i 36 (.v [.f 2 false]))) (.seq (.r [.M 37 0,.o 38 (.lens (.t 37)),.I 39 0] (.block 0 (.loop (f8l0)))) (f8r0)))
def f8:Qk:=⟨1,48,[.tmp 2],f8C,false⟩
@[simp] theorem f8B:f8.body=f8C∧f8.res=[.tmp 2]∧f8.keep=false:=⟨rfl,rfl,rfl⟩
def f9C:AC:= .r [.f 2 false] (.v [.M 3 0,.o 4 (.bin .geq (.t 3) (.c (.int .u8 97))),.M 5 4,.g 6 (.m 0) 5 true,.g 7 (.bin .leq (.t 6) (.c (.int .u8 122))) 5 true,.P 8 5 7,.M 9 8,.g 10 (.m 0) 9 false,.g 11 (.bin .geq (.t 10) (.c (.int .u8 65))) 9 false,.g 12 (.m 11) 9 false,.g 13 (.m 0) 12 true,.g 14 (.bin .leq (.t 13) (.c (.int .u8 90))) 12 true,.g 15 (.pick (.t 12) (.t 14) (.c (.bool false))) 9 false,.Q 16 9 15,.M 17 16,.g 18 (.m 0) 17 false,.g 19 (.bin .geq (.t 18) (.c (.int .u8 48))) 17 false,.g 20 (.m 19) 17 false,.g 21 (.m 0) 20 true,.g 22 (.bin .leq (.t 21) (.c (.int .u8 57))) 20 true,.g 23 (.pick (.t 20) (.t 22) (.c (.bool false))) 17 false,.Q 24 17 23,.M 25 24,.g 26 (.m 0) 25 false,.g 27 (.bin .eql (.t 26) (.c (.int .u8 95))) 25 false,.Q 28 25 27,.M 29 28,.g 30 (.m 0) 29 false,.g 31 (.bin .eql (.t 30) (.c (.int .u8 35))) 29 false,.Q 32 29 31,.M 2 32])
def f9:Qk:=⟨1,33,[.tmp 2],f9C,false⟩
def f30l0:AC:= .seq (.r [.M 42 5,.C 43 .eql 42 0,.M 44 43,.g 45 (.m 6) 44 true,.g 46 (.fad 2 3) 44 true,.g 47 (.ldf 2 3 1 false) 44 true,.g 48 (.lenl (.t 47)) 44 true,.g 49 (.bin .lss (.t 45) (.t 48)) 44 true,.P 50 44 49] (.x 50 0)) (.seq (.block 1 (.z [.F 53 2 3,.l 54 2 3 1,.M 55 6,.X 56 4 54 55,.DT 57 56 4,.F 58 3 3,.l 59 3 3 1,.M 60 6,.X 61 4 59 60,.DT 62 61 4,.c 63 30 [.t 57,.t 62],.M 5 63])) (.q [.M 51 6,.C 52 .add 51 1,.M 6 52]))
def f30r0:AC:= .v [.M 64 5,.M 4 64]
def f30C:AC:= .r [.b 2 0,.b 3 1,.I 4 0] (.seq (.z [.L 7 2 0 4,.c 8 31 [.t 7],.L 9 3 0 4,.c 10 31 [.t 9],.c 11 32 [.t 8,.t 10],.M 5 11]) (.seq (.r [.M 12 5,.C 13 .eql 12 0] (.i 13 (.q [.F 14 2 0,.l 15 2 0 1,.F 16 3 0,.l 17 3 0 1,.c 18 32 [.t 15,.t 17],.M 5 18]))) (.seq (.r [.M 19 5,.C 20 .eql 19 0] (.i 20 (.q [.F 21 2 1,.l 22 2 1 1,.F 23 3 1,.l 24 3 1 1,.c 25 33 [.t 22,.t 24],.M 5 25]))) (.seq (.r [.M 26 5,.C 27 .eql 26 0] (.i 27 (.q [.F 28 2 2,.l 29 2 2 1,.F 30 3 2,.l 31 3 2 1,.c 32 32 [.t 29,.t 31],.M 5 32]))) (.seq (.r [.M 33 5,.C 34 .eql 33 0] (.i 34 (.q [.F 35 2 3,.l 36 2 3 1,.N 37 36,.F 38 3 3,.l 39 3 3 1,.N 40 39,.c 41 32 [.t 37,.t 40],.M 5 41]))) (.seq (.r [.I 6 0] (.block 0 (.loop (f30l0)))) (f30r0)))))))
def f30:Qk:=⟨2,65,[.tmp 4],f30C,false⟩
@[simp] theorem f30B:f30.body=f30C∧f30.res=[.tmp 4]∧f30.keep=false:=⟨rfl,rfl,rfl⟩
def f31l0:AC:= .r [.B 10 .lss 9 8] (.seq (.x 10 0) (.seq (.block 1 (.r [.X 11 4 7 9,.DT 12 11 4,.T 5,.S 5 0 4 12] (.q [.M 13 3,.L 14 5 0 4,.c 15 31 [.t 14],.B 16 .add 13 15,.M 3 16]))) (.q [.C 17 .add 9 1,.M 9 17])))
def f31r0:AC:= .v [.M 18 3,.M 2 18]
def f31C:AC:= .r [.b 1 0,.I 2 0] (.r [.I 3 1] (.seq (.r [.F 6 1 3,.l 7 1 3 1,.N 8 7,.I 9 0] (.block 0 (.loop (f31l0)))) (f31r0)))
def f31:Qk:=⟨1,19,[.tmp 2],f31C,false⟩
@[simp] theorem f31B:f31.body=f31C∧f31.res=[.tmp 2]∧f31.keep=false:=⟨rfl,rfl,rfl⟩
def f32C:AC:= .r [.I 4 0] (.seq (.block 0 (.r [.M 6 0,.M 7 1,.B 8 .lss 6 7,.M 5 8] (.cond (.t 5) (.v [.I 4 (-1)]) (.r [.M 10 0,.M 11 1,.B 12 .gtr 10 11,.M 9 12] (.i 9 (.v [.I 4 1])))))) (.v [.I 4 0]))
def f32:Qk:=⟨2,13,[.tmp 4],f32C,false⟩
def f41C:AC:= .r [.b 1 0,.I 2 0] (.seq (.r [.L 4 1 0 4,.c 5 6 [.t 4],.M 3 5] (.r [.M 6 3,.C 7 .neq 6 0] (.i 7 (.v [.M 8 3,.M 2 8])))) (.v [.L 9 1 0 4,.c 10 42 [.t 9],.M 2 10]))
def f41:Qk:=⟨1,11,[.tmp 2],f41C,false⟩
@[simp] theorem f41B:f41.body=f41C∧f41.res=[.tmp 2]∧f41.keep=false:=⟨rfl,rfl,rfl⟩
def f42l0:AC:= .r [.B 41 .lss 40 39] (.seq (.x 41 1) (.seq (.block 2 (.r [.X 42 4 38 40,.DT 43 42 4,.T 6,.S 6 0 4 43] (.r [.F 44 6 0,.l 45 6 0 1,.C 46 .eql 45 3,.M 47 46,.g 48 (.fad 6 2) 47 false,.g 49 (.ldf 6 2 1 false) 47 false,.g 50 (.bin .neq (.t 49) (.i 1)) 47 false,.Q 51 47 50] (.i 51 (.v [.I 2 10]))))) (.q [.C 52 .add 40 1,.M 40 52])))
def f42l1:AC:= .r [.B 65 .lss 64 63] (.seq (.x 65 3) (.seq (.block 4 (.r [.X 66 4 62 64,.DT 67 66 4,.T 8,.S 8 0 4 67] (.r [.L 68 8 0 4,.c 69 42 [.t 68],.M 9 69] (.r [.M 70 9,.C 71 .neq 70 0] (.i 71 (.v [.M 72 9,.M 2 72])))))) (.q [.C 73 .add 64 1,.M 64 73])))
def f42r0:AC:= .v [.I 2 0]
def f42r1:AC:= .seq (.r [.F 61 1 3,.l 62 1 3 1,.N 63 62,.I 64 0] (.block 3 (.loop (f42l1)))) (f42r0)
def f42C:AC:= .r [.b 1 0,.I 2 0] (.seq (.r [.F 10 1 0,.l 11 1 0 1,.C 12 .neq 11 3] (.i 12 (.v [.I 2 0]))) (.r [.F 13 1 1,.l 14 1 1 1,.c 15 43 [.t 14],.o 3 (.alloc [.str [],.int .i64 0,.int .i64 0,.int .i64 0]),.S 3 0 4 15] (.seq (.r [.F 16 3 3,.l 17 3 3 1,.C 18 .eql 17 0] (.i 18 (.v [.I 2 10]))) (.seq (.r [.F 19 1 3,.l 20 1 3 1,.N 21 20,.M 4 21] (.r [.M 22 4,.F 23 3 1,.l 24 3 1 1,.B 25 .lss 22 24,.M 26 25,.g 27 (.m 4) 26 false,.g 28 (.fad 3 2) 26 false,.g 29 (.ldf 3 2 1 false) 26 false,.g 30 (.bin .gtr (.t 27) (.t 29)) 26 false,.Q 31 26 30] (.i 31 (.v [.I 2 6])))) (.seq (.r [.F 32 1 1,.l 33 1 1 1] (.block 0 (.seq (.r [.o 35 (.bin .eql (.t 33) (.c (.str [115,107]))),.M 34 35] (.cond (.t 34) (.skip) (.q [.o 36 (.bin .eql (.t 33) (.c (.str [115,104,107]))),.M 34 36]))) (.cond (.t 34) (.r [.F 37 1 3,.l 38 1 3 1,.N 39 38,.I 40 0] (.block 1 (.loop (f42l0)))) (.r [.o 54 (.bin .eql (.t 33) (.c (.str [110,101,119]))),.M 53 54] (.i 53 (.r [.F 55 1 3,.l 56 1 3 1,.o 57 (.idxa 4 (.t 56) (.i 0)),.o 58 (.fadr 57 0),.DF 59 58 1,.C 60 .neq 59 2] (.i 60 (.v [.I 2 10]))))))))) (f42r1))))))
def f42:Qk:=⟨1,74,[.tmp 2],f42C,false⟩
@[simp] theorem f42B:f42.body=f42C∧f42.res=[.tmp 2]∧f42.keep=false:=⟨rfl,rfl,rfl⟩
def f43l0:AC:= .r [.B 8 .lss 7 6] (.seq (.x 8 0) (.seq (.block 1 (.r [.X 9 4 5 7,.DT 10 9 4,.o 4 (.alloc [.str [],.int .i64 0,.int .i64 0,.int .i64 0]),.S 4 0 4 10] (.r [.F 11 4 0,.l 12 4 0 1,.M 13 0,.B 14 .eql 12 13] (.i 14 (.v [.L 15 4 0 4,.S 2 0 4 15]))))) (.q [.C 16 .add 7 1,.M 7 16])))
def f43r0:AC:= .v [.o 17 (.mkst [.str [],.int .i64 0,.int .i64 0,.int .i64 0] []),.S 2 0 4 17]
def f43C:AC:= .r [.o 2 (.alloc [.str [],.int .i64 0,.int .i64 0,.int .i64 0])] (.seq (.r [.c 5 44 [],.N 6 5,.I 7 0] (.block 0 (.loop (f43l0)))) (f43r0))
def f43:Qk:=⟨1,18,[.cell 2 4 true],f43C,false⟩
@[simp] theorem f43B:f43.body=f43C∧f43.res=[.cell 2 4 true]∧f43.keep=false:=⟨rfl,rfl,rfl⟩
def f44C:AC:= .r [.Z 0 4] (.r [.o 1 (.galloc [.sl true 4 []])] (.r [.o 6 (.mkfn 45 [.t 1]),.M 2 6] (.r [.I 3 1,.I 4 2,.I 5 3] (.r [.M 7 2,.M 8 3,.o 9 (.callv (.t 7) [.t 8,.c (.str [112,97,105,114]),.i 2,.i 2])] (.r [.M 10 2,.M 11 3,.o 12 (.callv (.t 10) [.t 11,.c (.str [101,110,99]),.i 2,.i 2])] (.r [.M 13 2,.M 14 3,.o 15 (.callv (.t 13) [.t 14,.c (.str [97,101,110,99]),.i 2,.i 2])] (.r [.M 16 2,.M 17 3,.o 18 (.callv (.t 16) [.t 17,.c (.str [112,107]),.i 1,.i 1])] (.r [.M 19 2,.M 20 3,.o 21 (.callv (.t 19) [.t 20,.c (.str [115,105,103,110]),.i 2,.i 2])] (.r [.M 22 2,.M 23 3,.o 24 (.callv (.t 22) [.t 23,.c (.str [104,97,115,104]),.i 1,.i 1])] (.r [.M 25 2,.M 26 3,.o 27 (.callv (.t 25) [.t 26,.c (.str [120,111,114]),.i 2,.i 8])] (.r [.M 28 2,.M 29 3,.o 30 (.callv (.t 28) [.t 29,.c (.str [122,101,114,111]),.i 0,.i 0])] (.r [.M 31 2,.M 32 3,.o 33 (.callv (.t 31) [.t 32,.c (.str [101,120,112]),.i 2,.i 2])] (.r [.M 34 2,.M 35 3,.o 36 (.callv (.t 34) [.t 35,.c (.str [109,117,108]),.i 2,.i 8])] (.r [.M 37 2,.M 38 3,.o 39 (.callv (.t 37) [.t 38,.c (.str [105,110,118]),.i 1,.i 1])] (.r [.M 40 2,.M 41 3,.o 42 (.callv (.t 40) [.t 41,.c (.str [111,110,101]),.i 0,.i 0])] (.r [.M 43 2,.M 44 4,.o 45 (.callv (.t 43) [.t 44,.c (.str [115,107]),.i 1,.i 1])] (.r [.M 46 2,.M 47 4,.o 48 (.callv (.t 46) [.t 47,.c (.str [115,104,107]),.i 2,.i 2])] (.r [.M 49 2,.M 50 4,.o 51 (.callv (.t 49) [.t 50,.c (.str [110,101,119]),.i 1,.i 8])] (.r [.M 52 2,.M 53 5,.o 54 (.callv (.t 52) [.t 53,.c (.str [102,115,116]),.i 1,.i 1])] (.r [.M 55 2,.M 56 5,.o 57 (.callv (.t 55) [.t 56,.c (.str [115,110,100]),.i 1,.i 1])] (.r [.M 58 2,.M 59 5,.o 60 (.callv (.t 58) [.t 59,.c (.str [100,101,99]),.i 2,.i 2])] (.r [.M 61 2,.M 62 5,.o 63 (.callv (.t 61) [.t 62,.c (.str [97,100,101,99]),.i 2,.i 2])] (.r [.M 64 2,.M 65 5,.o 66 (.callv (.t 64) [.t 65,.c (.str [111,112,101,110]),.i 2,.i 2])] (.r [.M 67 2,.M 68 5,.o 69 (.callv (.t 67) [.t 68,.c (.str [114,101,97,100]),.i 1,.i 1])] (.v [.o 70 (.ldg 1 1 false),.o 0 (.mvs 70)])))))))))))))))))))))))))
def f44:Qk:=⟨0,71,[.tmp 0],f44C,false⟩
def f45C:AC:= .q [.o 9 (.ldm 4),.M 10 1,.M 11 2,.M 12 3,.M 13 0,.o 14 (.mkst [.str [],.int .i64 0,.int .i64 0,.int .i64 0] [(0,1,.t 10),(1,1,.t 11),(2,1,.t 12),(3,1,.t 13)]),.o 15 (.mksl 4 [.t 14]),.A 16 40 4 9 15,.n (.stm 4 16)]
def f45:Qk:=⟨5,17,[],f45C,false⟩
def f46C:AC:= .r [.b 1 0,.T 2] (.r [.L 6 1 0 4,.c 7 47 [.t 6,.c (.sl true 1 [])],.M 5 7,.E 8 5 0,.E 9 5 1,.T 3,.S 3 0 4 8,.M 4 9] (.v [.L 10 3 0 4,.S 2 0 4 10]))
def f46:Qk:=⟨1,11,[.cell 2 4 true],f46C,false⟩
def f47l0:AC:= .r [.B 11 .lss 10 9] (.seq (.x 11 0) (.seq (.block 1 (.r [.X 12 1 8 10,.DF 13 12 1,.M 7 13] (.seq (.r [.M 14 7,.C 15 .lss 14 0,.M 16 15,.g 17 (.m 7) 16 false,.g 18 (.fad 2 3) 16 false,.g 19 (.ldf 2 3 1 false) 16 false,.g 20 (.lenl (.t 19)) 16 false,.g 21 (.bin .geq (.t 17) (.t 20)) 16 false,.Q 22 16 21] (.i 22 (.v [.o 23 (.mkst zG []),.n (.stn 4 0 4 (.t 23) zT),.I 5 7]))) (.q [.F 24 2 3,.l 25 2 3 1,.M 26 7,.X 27 4 25 26,.DT 28 27 4,.S 2 0 4 28])))) (.q [.C 29 .add 10 1,.M 10 29])))
def f47r0:AC:= .v [.L 30 2 0 4,.c 31 48 [.t 30],.S 4 0 4 31,.I 5 0]
def f47C:AC:= .r [.b 2 0,.T 4,.I 5 0] (.seq (.r [.M 8 1,.N 9 8,.I 10 0] (.block 0 (.loop (f47l0)))) (f47r0))
def f47:Qk:=⟨2,32,[.cell 4 4 true,.tmp 5],f47C,false⟩
@[simp] theorem f47B:f47.body=f47C∧f47.res=[.cell 4 4 true,.tmp 5]∧f47.keep=false:=⟨rfl,rfl,rfl⟩
def f48l0:AC:= .r [.B 12 .lss 11 10] (.seq (.x 12 0) (.seq (.block 1 (.r [.X 13 4 9 11,.DT 14 13 4,.T 5,.S 5 0 4 14] (.z [.F 15 1 3,.o 16 (.ldfm 1 3),.L 17 5 0 4,.c 18 48 [.t 17],.o 19 (.mksl 4 [.t 18]),.A 20 56 4 16 19,.F 21 1 3,.n (.stfm 1 3 20)]))) (.q [.C 22 .add 11 1,.M 11 22])))
def f48r0:AC:= .v [.L 23 1 0 4,.S 2 0 4 23]
def f48C:AC:= .r [.b 1 0,.T 2] (.r [.F 6 1 3,.l 7 1 3 1,.o 3 (.mvs 7)] (.r [.F 8 1 3,.n (.stf 1 3 1 (.c (.sl true 4 [])))] (.seq (.r [.M 9 3,.N 10 9,.I 11 0] (.block 0 (.loop (f48l0)))) (f48r0))))
def f48:Qk:=⟨1,24,[.cell 2 4 true],f48C,false⟩
@[simp] theorem f48B:f48.body=f48C∧f48.res=[.cell 2 4 true]∧f48.keep=false:=⟨rfl,rfl,rfl⟩
def f49C:AC:= .r [.T 4] (.v [.M 5 0,.M 6 1,.o 7 (.mkst zT [(0,1,.i 3),(1,1,.t 5),(3,1,.t 6)]),.S 4 0 4 7])
def f49:Qk:=⟨2,8,[.cell 4 4 true],f49C,false⟩
def f54C:AC:= .r [.b 1 0,.I 2 0] (.seq (.r [.L 4 1 0 4,.c 5 55 [.t 4],.M 3 5] (.r [.M 6 3,.C 7 .neq 6 0] (.i 7 (.v [.M 8 3,.M 2 8])))) (.seq (.r [.L 9 1 0 4,.c 10 60 [.t 9],.C 11 .gtr 10 400,.M 12 11,.g 13 (.ldf 1 0 4 true) 12 false,.g 14 (.call 61 [.t 13]) 12 false,.g 15 (.bin .gtr (.t 14) (.i 40)) 12 false,.Q 16 12 15] (.i 16 (.v [.I 2 3]))) (.v [.I 2 0])))
def f54:Qk:=⟨1,17,[.tmp 2],f54C,false⟩
@[simp] theorem f54B:f54.body=f54C∧f54.res=[.tmp 2]∧f54.keep=false:=⟨rfl,rfl,rfl⟩
def f55l0:AC:= .seq (.r [.M 11 4,.F 12 1 3,.l 13 1 3 1,.N 14 13,.B 15 .lss 11 14] (.x 15 0)) (.seq (.block 1 (.r [.F 18 1 3,.l 19 1 3 1,.M 20 4,.X 21 4 19 20,.DT 22 21 4,.c 23 55 [.t 22],.M 5 23] (.r [.M 24 5,.C 25 .neq 24 0] (.i 25 (.v [.M 26 5,.M 2 26]))))) (.q [.M 16 4,.C 17 .add 16 1,.M 4 17]))
def f55r0:AC:= .v [.I 2 0]
def f55C:AC:= .r [.b 1 0,.I 2 0] (.seq (.r [.L 6 1 0 4,.c 7 56 [.t 6],.M 3 7] (.r [.M 8 3,.C 9 .neq 8 0] (.i 9 (.v [.M 10 3,.M 2 10])))) (.seq (.r [.I 4 0] (.block 0 (.loop (f55l0)))) (f55r0)))
def f55:Qk:=⟨1,27,[.tmp 2],f55C,false⟩
@[simp] theorem f55B:f55.body=f55C∧f55.res=[.tmp 2]∧f55.keep=false:=⟨rfl,rfl,rfl⟩
def f56C:AC:= .r [.b 1 0,.I 2 0] (.r [.F 4 1 0,.l 5 1 0 1,.C 6 .eql 5 1,.M 7 6,.g 8 (.fad 1 0) 7 false,.g 9 (.ldf 1 0 1 false) 7 false,.g 10 (.bin .eql (.t 9) (.i 2)) 7 false,.Q 11 7 10,.M 3 11] (.seq (.r [.M 12 3,.o 13 (.un .not (.t 12)),.M 14 13,.g 15 (.fad 1 0) 14 true,.g 16 (.ldf 1 0 1 false) 14 true,.g 17 (.bin .neq (.t 16) (.i 3)) 14 true,.P 18 14 17,.M 19 18,.g 20 (.fad 1 2) 19 false,.g 21 (.ldf 1 2 1 false) 19 false,.g 22 (.bin .lss (.t 21) (.i 0)) 19 false,.Q 23 19 22,.M 24 23,.g 25 (.fad 1 2) 24 false,.g 26 (.ldf 1 2 1 false) 24 false,.g 27 (.bin .gtr (.t 26) (.i 5)) 24 false,.Q 28 24 27,.M 29 28,.g 30 (.m 3) 29 false,.g 31 (.un .not (.t 30)) 29 false,.g 32 (.m 31) 29 false,.g 33 (.fad 1 2) 32 true,.g 34 (.ldf 1 2 1 false) 32 true,.g 35 (.bin .neq (.t 34) (.i 0)) 32 true,.g 36 (.pick (.t 32) (.t 35) (.c (.bool false))) 29 false,.Q 37 29 36,.M 38 37,.g 39 (.m 3) 38 false,.g 40 (.m 39) 38 false,.g 41 (.fad 1 3) 40 true,.g 42 (.ldf 1 3 1 false) 40 true,.g 43 (.lenl (.t 42)) 40 true,.g 44 (.bin .gtr (.t 43) (.i 0)) 40 true,.g 45 (.pick (.t 40) (.t 44) (.c (.bool false))) 38 false,.Q 46 38 45] (.i 46 (.v [.I 2 1]))) (.seq (.r [.F 47 1 1,.l 48 1 1 1,.c 49 57 [.t 48],.o 50 (.un .not (.t 49))] (.i 50 (.v [.I 2 2]))) (.seq (.r [.F 51 1 3,.l 52 1 3 1,.N 53 52,.C 54 .gtr 53 8] (.i 54 (.v [.I 2 3]))) (.v [.I 2 0])))))
def f56:Qk:=⟨1,55,[.tmp 2],f56C,false⟩
@[simp] theorem f56B:f56.body=f56C∧f56.res=[.tmp 2]∧f56.keep=false:=⟨rfl,rfl,rfl⟩
def f57l0:AC:= .seq (.r [.M 18 3,.M 19 0,.o 20 (.lens (.t 19)),.B 21 .lss 18 20] (.x 21 0)) (.seq (.block 1 (.r [.M 24 0,.M 25 3,.o 26 (.idx (.t 24) (.t 25)),.c 27 58 [.t 26],.o 28 (.un .not (.t 27)),.M 29 28,.g 30 (.m 0) 29 true,.g 31 (.m 3) 29 true,.g 32 (.idx (.t 30) (.t 31)) 29 true,.g 33 (.call 59 [.t 32]) 29 true,.g 34 (.un .not (.t 33)) 29 true,.P 35 29 34,.M 36 35,.g 37 (.m 0) 36 true,.g 38 (.m 3) 36 true,.g 39 (.idx (.t 37) (.t 38)) 36 true,.g 40 (.bin .neq (.t 39) (.c (.int .u8 95))) 36 true,.P 41 36 40,.M 42 41,.g 43 (.m 0) 42 true,.g 44 (.m 3) 42 true,.g 45 (.idx (.t 43) (.t 44)) 42 true,.g 46 (.bin .neq (.t 45) (.c (.int .u8 35))) 42 true,.P 47 42 46] (.i 47 (.v [.f 2 false])))) (.q [.M 22 3,.C 23 .add 22 1,.M 3 23]))
def f57r0:AC:= .v [.f 2 true]
def f57C:AC:= .r [.f 2 false] (.seq (.r [.M 4 0,.o 5 (.lens (.t 4)),.C 6 .eql 5 0,.M 7 6,.g 8 (.m 0) 7 false,.g 9 (.lens (.t 8)) 7 false,.g 10 (.bin .gtr (.t 9) (.i 24)) 7 false,.Q 11 7 10,.M 12 11,.g 13 (.m 0) 12 false,.g 14 (.idx (.t 13) (.i 0)) 12 false,.g 15 (.call 58 [.t 14]) 12 false,.g 16 (.un .not (.t 15)) 12 false,.Q 17 12 16] (.i 17 (.v [.f 2 false]))) (.seq (.r [.I 3 0] (.block 0 (.loop (f57l0)))) (f57r0)))
def f57:Qk:=⟨1,48,[.tmp 2],f57C,false⟩
@[simp] theorem f57B:f57.body=f57C∧f57.res=[.tmp 2]∧f57.keep=false:=⟨rfl,rfl,rfl⟩
def f58C:AC:= .r [.f 2 false] (.v [.M 3 0,.o 4 (.bin .geq (.t 3) (.c (.int .u8 97))),.M 5 4,.g 6 (.m 0) 5 true,.g 7 (.bin .leq (.t 6) (.c (.int .u8 122))) 5 true,.P 8 5 7,.M 9 8,.g 10 (.m 0) 9 false,.g 11 (.bin .geq (.t 10) (.c (.int .u8 65))) 9 false,.g 12 (.m 11) 9 false,.g 13 (.m 0) 12 true,.g 14 (.bin .leq (.t 13) (.c (.int .u8 90))) 12 true,.g 15 (.pick (.t 12) (.t 14) (.c (.bool false))) 9 false,.Q 16 9 15,.M 2 16])
def f58:Qk:=⟨1,17,[.tmp 2],f58C,false⟩
def f59C:AC:= .r [.f 2 false] (.v [.M 3 0,.o 4 (.bin .geq (.t 3) (.c (.int .u8 48))),.M 5 4,.g 6 (.m 0) 5 true,.g 7 (.bin .leq (.t 6) (.c (.int .u8 57))) 5 true,.P 8 5 7,.M 2 8])
def f59:Qk:=⟨1,9,[.tmp 2],f59C,false⟩
def f60l0:AC:= .seq (.r [.M 5 4,.F 6 1 3,.l 7 1 3 1,.N 8 7,.B 9 .lss 5 8] (.x 9 0)) (.seq (.block 1 (.q [.M 12 3,.F 13 1 3,.l 14 1 3 1,.M 15 4,.X 16 4 14 15,.DT 17 16 4,.c 18 60 [.t 17],.B 19 .add 12 18,.M 3 19])) (.q [.M 10 4,.C 11 .add 10 1,.M 4 11]))
def f60r0:AC:= .v [.M 20 3,.M 2 20]
def f60C:AC:= .r [.b 1 0,.I 2 0] (.r [.I 3 1] (.seq (.r [.I 4 0] (.block 0 (.loop (f60l0)))) (f60r0)))
def f60:Qk:=⟨1,21,[.tmp 2],f60C,false⟩
@[simp] theorem f60B:f60.body=f60C∧f60.res=[.tmp 2]∧f60.keep=false:=⟨rfl,rfl,rfl⟩
def f61l0:AC:= .seq (.r [.M 5 4,.F 6 1 3,.l 7 1 3 1,.N 8 7,.B 9 .lss 5 8] (.x 9 0)) (.seq (.block 1 (.q [.M 12 3,.F 13 1 3,.l 14 1 3 1,.M 15 4,.X 16 4 14 15,.DT 17 16 4,.c 18 61 [.t 17],.o 19 (.mx (.t 12) (.t 18)),.M 3 19])) (.q [.M 10 4,.C 11 .add 10 1,.M 4 11]))
def f61r0:AC:= .v [.M 20 3,.C 21 .add 20 1,.M 2 21]
def f61C:AC:= .r [.b 1 0,.I 2 0] (.r [.I 3 0] (.seq (.r [.I 4 0] (.block 0 (.loop (f61l0)))) (f61r0)))
def f61:Qk:=⟨1,22,[.tmp 2],f61C,false⟩
@[simp] theorem f61B:f61.body=f61C∧f61.res=[.tmp 2]∧f61.keep=false:=⟨rfl,rfl,rfl⟩
def f63C:AC:= .r [.o 2 (.mov (.c (.str [])))] (.v [.o 3 (.mksl 1 [.c (.str [97,110,121]),.c (.str [97,103,101,110,116]),.c (.str [110,111,110,99,101]),.c (.str [107,101,121]),.c (.str [100,97,116,97]),.c (.str [116,97,103])]),.M 4 0,.X 5 1 3 4,.DF 6 5 1,.M 2 6])
def f63:Qk:=⟨1,7,[.tmp 2],f63C,false⟩
def f71C:AC:= .r [.b 2 0,.f 4 false] (.v [.F 5 2 0,.l 6 2 0 1,.C 7 .eql 6 3,.M 8 7,.g 9 (.fad 2 1) 8 true,.g 10 (.ldf 2 1 1 false) 8 true,.g 11 (.m 1) 8 true,.g 12 (.bin .eql (.t 10) (.t 11)) 8 true,.P 13 8 12,.M 4 13])
def f71:Qk:=⟨2,14,[.tmp 4],f71C,false⟩
def f73C:AC:= .r [.o 4 (.mov (.c (.str []))),.f 5 false] (.v [.M 6 0,.M 7 1,.c 8 74 [.t 6,.t 7],.E 9 8 0,.E 10 8 1,.M 4 9,.M 5 10])
def f73:Qk:=⟨2,11,[.tmp 4,.tmp 5],f73C,false⟩
@[simp] theorem f73B:f73.body=f73C∧f73.res=[.tmp 4,.tmp 5]∧f73.keep=false:=⟨rfl,rfl,rfl⟩
def f74C:AC:= .r [.o 4 (.mov (.c (.str []))),.f 5 false] (.seq (.r [.M 6 0,.M 7 1,.c 8 75 [.t 6,.t 7],.o 9 (.un .not (.t 8))] (.i 9 (.v [.M 10 0,.M 4 10,.f 5 false]))) (.v [.M 11 0,.M 12 1,.o 13 (.lens (.t 12)),.o 14 (.slcs (.t 11) (some (.t 13)) none),.M 4 14,.f 5 true]))
def f74:Qk:=⟨2,15,[.tmp 4,.tmp 5],f74C,false⟩
@[simp] theorem f74B:f74.body=f74C∧f74.res=[.tmp 4,.tmp 5]∧f74.keep=false:=⟨rfl,rfl,rfl⟩
def f75C:AC:= .r [.f 4 false] (.v [.M 5 0,.o 6 (.lens (.t 5)),.M 7 1,.o 8 (.lens (.t 7)),.B 9 .geq 6 8,.M 10 9,.g 11 (.m 0) 10 true,.g 12 (.m 1) 10 true,.g 13 (.lens (.t 12)) 10 true,.g 14 (.slcs (.t 11) none (some (.t 13))) 10 true,.g 15 (.m 1) 10 true,.g 16 (.bin .eql (.t 14) (.t 15)) 10 true,.P 17 10 16,.M 4 17])
def f75:Qk:=⟨2,18,[.tmp 4],f75C,false⟩
@[simp] theorem f75B:f75.body=f75C∧f75.res=[.tmp 4]∧f75.keep=false:=⟨rfl,rfl,rfl⟩
def f89C:AC:= .r [.b 2 0,.b 3 1,.f 4 false] (.v [.L 5 2 0 4,.L 6 3 0 4,.c 7 90 [.t 5,.t 6],.C 8 .eql 7 0,.M 4 8])
def f89:Qk:=⟨2,9,[.tmp 4],f89C,false⟩
def f90l0:AC:= .seq (.r [.M 55 9,.F 56 2 3,.l 57 2 3 1,.N 58 57,.B 59 .lss 55 58] (.x 59 0)) (.seq (.block 1 (.seq (.z [.F 62 2 3,.l 63 2 3 1,.M 64 9,.X 65 4 63 64,.DT 66 65 4,.F 67 3 3,.l 68 3 3 1,.M 69 9,.X 70 4 68 69,.DT 71 70 4,.c 72 90 [.t 66,.t 71],.M 10 72]) (.r [.M 73 10,.C 74 .neq 73 0] (.i 74 (.v [.M 75 10,.M 4 75]))))) (.q [.M 60 9,.C 61 .add 60 1,.M 9 61]))
def f90r0:AC:= .v [.I 4 0]
def f90C:AC:= .r [.b 2 0,.b 3 1,.I 4 0] (.seq (.seq (.z [.L 11 2 0 4,.c 12 60 [.t 11],.L 13 3 0 4,.c 14 60 [.t 13],.c 15 91 [.t 12,.t 14],.M 5 15]) (.r [.M 16 5,.C 17 .neq 16 0] (.i 17 (.v [.M 18 5,.M 4 18])))) (.seq (.r [.F 19 2 0,.l 20 2 0 1,.F 21 3 0,.l 22 3 0 1,.c 23 91 [.t 20,.t 22],.M 6 23] (.r [.M 24 6,.C 25 .neq 24 0] (.i 25 (.v [.M 26 6,.M 4 26])))) (.seq (.r [.F 27 2 1,.l 28 2 1 1,.F 29 3 1,.l 30 3 1 1,.B 31 .lss 28 30] (.i 31 (.v [.I 4 (-1)]))) (.seq (.r [.F 32 2 1,.l 33 2 1 1,.F 34 3 1,.l 35 3 1 1,.B 36 .gtr 33 35] (.i 36 (.v [.I 4 1]))) (.seq (.r [.F 37 2 2,.l 38 2 2 1,.F 39 3 2,.l 40 3 2 1,.c 41 91 [.t 38,.t 40],.M 7 41] (.r [.M 42 7,.C 43 .neq 42 0] (.i 43 (.v [.M 44 7,.M 4 44])))) (.seq (.r [.F 45 2 3,.l 46 2 3 1,.N 47 46,.F 48 3 3,.l 49 3 3 1,.N 50 49,.c 51 91 [.t 47,.t 50],.M 8 51] (.r [.M 52 8,.C 53 .neq 52 0] (.i 53 (.v [.M 54 8,.M 4 54])))) (.seq (.r [.I 9 0] (.block 0 (.loop (f90l0)))) (f90r0))))))))
def f90:Qk:=⟨2,76,[.tmp 4],f90C,false⟩
@[simp] theorem f90B:f90.body=f90C∧f90.res=[.tmp 4]∧f90.keep=false:=⟨rfl,rfl,rfl⟩
def f91C:AC:= .r [.I 4 0] (.seq (.r [.M 5 0,.M 6 1,.B 7 .lss 5 6] (.i 7 (.v [.I 4 (-1)]))) (.seq (.r [.M 8 0,.M 9 1,.B 10 .gtr 8 9] (.i 10 (.v [.I 4 1]))) (.v [.I 4 0])))
def f91:Qk:=⟨2,11,[.tmp 4],f91C,false⟩
def f101l0:AC:= .seq (.r [.M 12 7,.M 13 0,.N 14 13,.B 15 .lss 12 14] (.x 15 0)) (.seq (.block 1 (.r [.M 18 0,.M 19 7,.X 20 4 18 19,.DT 21 20 4,.M 22 2,.c 23 102 [.t 21,.t 22],.M 2 23] (.r [.M 24 2,.C 25 .lss 24 0] (.i 25 (.v [.f 6 false]))))) (.q [.M 16 7,.C 17 .add 16 1,.M 7 17]))
def f101r0:AC:= .v [.f 6 true]
def f101C:AC:= .r [.f 6 false] (.seq (.r [.M 8 0,.N 9 8,.M 10 1,.B 11 .gtr 9 10] (.i 11 (.v [.f 6 false]))) (.seq (.r [.I 7 0] (.block 0 (.loop (f101l0)))) (f101r0)))
def f101:Qk:=⟨3,26,[.tmp 6],f101C,false⟩
@[simp] theorem f101B:f101.body=f101C∧f101.res=[.tmp 6]∧f101.keep=false:=⟨rfl,rfl,rfl⟩
def f102l0:AC:= .seq (.r [.M 16 5,.F 17 2 3,.l 18 2 3 1,.N 19 18,.B 20 .lss 16 19] (.x 20 0)) (.seq (.block 1 (.r [.F 23 2 3,.l 24 2 3 1,.M 25 5,.X 26 4 24 25,.DT 27 26 4,.M 28 1,.c 29 102 [.t 27,.t 28],.M 1 29] (.r [.M 30 1,.C 31 .lss 30 0] (.i 31 (.v [.I 4 (-1)]))))) (.q [.M 21 5,.C 22 .add 21 1,.M 5 22]))
def f102r0:AC:= .v [.M 32 1,.M 4 32]
def f102C:AC:= .r [.b 2 0,.I 4 0] (.seq (.r [.M 6 1,.C 7 .leq 6 0,.M 8 7,.g 9 (.fad 2 1) 8 false,.g 10 (.ldf 2 1 1 false) 8 false,.g 11 (.lens (.t 10)) 8 false,.g 12 (.bin .gtr (.t 11) (.i 40)) 8 false,.Q 13 8 12] (.i 13 (.v [.I 4 (-1)]))) (.r [.M 14 1,.C 15 .sub 14 1,.M 1 15] (.seq (.r [.I 5 0] (.block 0 (.loop (f102l0)))) (f102r0))))
def f102:Qk:=⟨2,33,[.tmp 4],f102C,false⟩
@[simp] theorem f102B:f102.body=f102C∧f102.res=[.tmp 4]∧f102.keep=false:=⟨rfl,rfl,rfl⟩
def f107C:AC:= .r [.T 4] (.v [.M 5 0,.M 6 1,.o 7 (.mkst zG [(0,1,.i 2),(1,1,.t 5),(2,1,.t 6)]),.n (.stn 4 0 4 (.t 7) zT)])
def f107:Qk:=⟨2,8,[.cell 4 4 true],f107C,false⟩
def f120C:AC:= .r [.T 4] (.v [.M 5 0,.o 6 (.mksl 4 []),.M 7 1,.A 8 56 4 6 7,.o 9 (.mkst zT [(0,1,.i 3),(1,1,.t 5),(3,1,.t 8)]),.S 4 0 4 9])
def f120:Qk:=⟨2,10,[.cell 4 4 true],f120C,false⟩
@[simp] theorem f120B:f120.body=f120C∧f120.res=[.cell 4 4 true]∧f120.keep=false:=⟨rfl,rfl,rfl⟩
def f126C:AC:= .r [.b 1 0,.I 2 0] (.seq (.r [.L 4 1 0 4,.c 5 54 [.t 4],.M 3 5] (.r [.M 6 3,.C 7 .neq 6 0] (.i 7 (.v [.M 8 3,.M 2 8])))) (.v [.L 9 1 0 4,.c 10 127 [.t 9],.M 2 10]))
def f126:Qk:=⟨1,11,[.tmp 2],f126C,false⟩
@[simp] theorem f126B:f126.body=f126C∧f126.res=[.tmp 2]∧f126.keep=false:=⟨rfl,rfl,rfl⟩
def f127l0:AC:= .seq (.r [.M 24 4,.F 25 1 3,.l 26 1 3 1,.N 27 26,.B 28 .lss 24 27] (.x 28 0)) (.seq (.block 1 (.r [.F 31 1 3,.l 32 1 3 1,.M 33 4,.X 34 4 32 33,.DT 35 34 4,.c 36 127 [.t 35],.M 5 36] (.r [.M 37 5,.C 38 .neq 37 0] (.i 38 (.v [.M 39 5,.M 2 39]))))) (.q [.M 29 4,.C 30 .add 29 1,.M 4 30]))
def f127r0:AC:= .v [.I 2 0]
def f127C:AC:= .r [.b 1 0,.I 2 0] (.seq (.r [.F 6 1 0,.l 7 1 0 1,.C 8 .neq 7 3] (.i 8 (.v [.I 2 0]))) (.r [.F 9 1 1,.l 10 1 1 1,.c 11 128 [.t 10],.M 3 11] (.seq (.r [.M 12 3,.C 13 .eql 12 0] (.i 13 (.v [.I 2 10]))) (.seq (.r [.L 14 1 0 4,.c 15 130 [.t 14],.o 16 (.un .not (.t 15))] (.i 16 (.v [.I 2 6]))) (.seq (.r [.M 17 3,.C 18 .eql 17 2,.M 19 18,.g 20 (.ldf 1 0 4 true) 19 true,.g 21 (.call 131 [.t 20]) 19 true,.g 22 (.un .not (.t 21)) 19 true,.P 23 19 22] (.i 23 (.v [.I 2 10]))) (.seq (.r [.I 4 0] (.block 0 (.loop (f127l0)))) (f127r0)))))))
def f127:Qk:=⟨1,40,[.tmp 2],f127C,false⟩
@[simp] theorem f127B:f127.body=f127C∧f127.res=[.tmp 2]∧f127.keep=false:=⟨rfl,rfl,rfl⟩
def f128l0:AC:= .seq (.r [.M 6 4,.M 7 3,.N 8 7,.B 9 .lss 6 8] (.x 9 0)) (.seq (.block 1 (.r [.M 12 3,.M 13 4,.X 14 4 12 13,.o 15 (.fadr 14 0),.DF 16 15 1,.M 17 0,.B 18 .eql 16 17] (.i 18 (.v [.M 19 3,.M 20 4,.X 21 4 19 20,.o 22 (.fadr 21 3),.DF 23 22 1,.M 2 23])))) (.q [.M 10 4,.C 11 .add 10 1,.M 4 11]))
def f128r0:AC:= .v [.I 2 0]
def f128C:AC:= .r [.I 2 0] (.r [.c 5 129 [],.o 3 (.mvs 5)] (.seq (.r [.I 4 0] (.block 0 (.loop (f128l0)))) (f128r0)))
def f128:Qk:=⟨1,24,[.tmp 2],f128C,false⟩
@[simp] theorem f128B:f128.body=f128C∧f128.res=[.tmp 2]∧f128.keep=false:=⟨rfl,rfl,rfl⟩
def f129C:AC:= .r [.Z 0 4] (.v [.o 1 (.mkst [.str [],.int .i64 0,.int .i64 0,.int .i64 0] [(0,1,.c (.str [112,97,105,114])),(1,1,.i 2),(2,1,.i 2),(3,1,.i 1)]),.o 2 (.mkst [.str [],.int .i64 0,.int .i64 0,.int .i64 0] [(0,1,.c (.str [101,110,99])),(1,1,.i 2),(2,1,.i 2),(3,1,.i 1)]),.o 3 (.mkst [.str [],.int .i64 0,.int .i64 0,.int .i64 0] [(0,1,.c (.str [97,101,110,99])),(1,1,.i 2),(2,1,.i 2),(3,1,.i 1)]),.o 4 (.mkst [.str [],.int .i64 0,.int .i64 0,.int .i64 0] [(0,1,.c (.str [112,107])),(1,1,.i 1),(2,1,.i 1),(3,1,.i 1)]),.o 5 (.mkst [.str [],.int .i64 0,.int .i64 0,.int .i64 0] [(0,1,.c (.str [115,105,103,110])),(1,1,.i 2),(2,1,.i 2),(3,1,.i 1)]),.o 6 (.mkst [.str [],.int .i64 0,.int .i64 0,.int .i64 0] [(0,1,.c (.str [104,97,115,104])),(1,1,.i 1),(2,1,.i 1),(3,1,.i 1)]),.o 7 (.mkst [.str [],.int .i64 0,.int .i64 0,.int .i64 0] [(0,1,.c (.str [120,111,114])),(1,1,.i 2),(2,1,.i 8),(3,1,.i 1)]),.o 8 (.mkst [.str [],.int .i64 0,.int .i64 0,.int .i64 0] [(0,1,.c (.str [122,101,114,111])),(3,1,.i 1)]),.o 9 (.mkst [.str [],.int .i64 0,.int .i64 0,.int .i64 0] [(0,1,.c (.str [101,120,112])),(1,1,.i 2),(2,1,.i 2),(3,1,.i 1)]),.o 10 (.mkst [.str [],.int .i64 0,.int .i64 0,.int .i64 0] [(0,1,.c (.str [109,117,108])),(1,1,.i 2),(2,1,.i 8),(3,1,.i 1)]),.o 11 (.mkst [.str [],.int .i64 0,.int .i64 0,.int .i64 0] [(0,1,.c (.str [105,110,118])),(1,1,.i 1),(2,1,.i 1),(3,1,.i 1)]),.o 12 (.mkst [.str [],.int .i64 0,.int .i64 0,.int .i64 0] [(0,1,.c (.str [111,110,101])),(3,1,.i 1)]),.o 13 (.mkst [.str [],.int .i64 0,.int .i64 0,.int .i64 0] [(0,1,.c (.str [115,107])),(1,1,.i 1),(2,1,.i 1),(3,1,.i 2)]),.o 14 (.mkst [.str [],.int .i64 0,.int .i64 0,.int .i64 0] [(0,1,.c (.str [115,104,107])),(1,1,.i 2),(2,1,.i 2),(3,1,.i 2)]),.o 15 (.mkst [.str [],.int .i64 0,.int .i64 0,.int .i64 0] [(0,1,.c (.str [110,101,119])),(1,1,.i 1),(2,1,.i 8),(3,1,.i 2)]),.o 16 (.mkst [.str [],.int .i64 0,.int .i64 0,.int .i64 0] [(0,1,.c (.str [102,115,116])),(1,1,.i 1),(2,1,.i 1),(3,1,.i 3)]),.o 17 (.mkst [.str [],.int .i64 0,.int .i64 0,.int .i64 0] [(0,1,.c (.str [115,110,100])),(1,1,.i 1),(2,1,.i 1),(3,1,.i 3)]),.o 18 (.mkst [.str [],.int .i64 0,.int .i64 0,.int .i64 0] [(0,1,.c (.str [100,101,99])),(1,1,.i 2),(2,1,.i 2),(3,1,.i 3)]),.o 19 (.mkst [.str [],.int .i64 0,.int .i64 0,.int .i64 0] [(0,1,.c (.str [97,100,101,99])),(1,1,.i 2),(2,1,.i 2),(3,1,.i 3)]),.o 20 (.mkst [.str [],.int .i64 0,.int .i64 0,.int .i64 0] [(0,1,.c (.str [111,112,101,110])),(1,1,.i 2),(2,1,.i 2),(3,1,.i 3)]),.o 21 (.mkst [.str [],.int .i64 0,.int .i64 0,.int .i64 0] [(0,1,.c (.str [114,101,97,100])),(1,1,.i 1),(2,1,.i 1),(3,1,.i 3)]),.o 22 (.mksl 4 [.t 1,.t 2,.t 3,.t 4,.t 5,.t 6,.t 7,.t 8,.t 9,.t 10,.t 11,.t 12,.t 13,.t 14,.t 15,.t 16,.t 17,.t 18,.t 19,.t 20,.t 21]),.o 0 (.mvs 22)])
def f129:Qk:=⟨0,23,[.tmp 0],f129C,false⟩
def f130l0:AC:= .seq (.r [.M 6 4,.M 7 3,.N 8 7,.B 9 .lss 6 8] (.x 9 0)) (.seq (.block 1 (.seq (.z [.M 12 3,.M 13 4,.X 14 4 12 13,.o 15 (.fadr 14 0),.DF 16 15 1,.F 17 1 1,.l 18 1 1 1,.B 19 .eql 16 18]) (.i 19 (.seq (.z [.F 20 1 3,.l 21 1 3 1,.N 22 21,.M 23 3,.M 24 4,.X 25 4 23 24,.o 26 (.fadr 25 1),.DF 27 26 1,.B 28 .geq 22 27,.M 29 28,.g 30 (.fad 1 3) 29 true,.g 31 (.ldf 1 3 1 false) 29 true,.g 32 (.lenl (.t 31)) 29 true,.g 33 (.m 3) 29 true,.g 34 (.m 4) 29 true,.g 35 (.idxa 4 (.t 33) (.t 34)) 29 true,.g 36 (.fadr 35 2) 29 true,.g 37 (.ld 36 1 false) 29 true,.g 38 (.bin .leq (.t 32) (.t 37)) 29 true,.P 39 29 38,.M 2 39]) (.ret))))) (.q [.M 10 4,.C 11 .add 10 1,.M 4 11]))
def f130r0:AC:= .v [.f 2 false]
def f130C:AC:= .r [.b 1 0,.f 2 false] (.r [.c 5 129 [],.o 3 (.mvs 5)] (.seq (.r [.I 4 0] (.block 0 (.loop (f130l0)))) (f130r0)))
def f130:Qk:=⟨1,40,[.tmp 2],f130C,false⟩
@[simp] theorem f130B:f130.body=f130C∧f130.res=[.tmp 2]∧f130.keep=false:=⟨rfl,rfl,rfl⟩
def f131l0:AC:= .seq (.r [.M 13 3,.F 14 1 3,.l 15 1 3 1,.N 16 15,.B 17 .lss 13 16] (.x 17 0)) (.seq (.block 1 (.r [.F 20 1 3,.l 21 1 3 1,.M 22 3,.X 23 4 21 22,.o 24 (.fadr 23 0),.DF 25 24 1,.C 26 .eql 25 3,.M 27 26,.g 28 (.fad 1 3) 27 false,.g 29 (.ldf 1 3 1 false) 27 false,.g 30 (.m 3) 27 false,.g 31 (.idxa 4 (.t 29) (.t 30)) 27 false,.g 32 (.fadr 31 2) 27 false,.g 33 (.ld 32 1 false) 27 false,.g 34 (.bin .neq (.t 33) (.i 1)) 27 false,.Q 35 27 34] (.i 35 (.v [.f 2 false])))) (.q [.M 18 3,.C 19 .add 18 1,.M 3 19]))
def f131r0:AC:= .v [.f 2 true]
def f131C:AC:= .r [.b 1 0,.f 2 false] (.seq (.r [.F 4 1 1,.l 5 1 1 1,.o 6 (.bin .eql (.t 5) (.c (.str [110,101,119])))] (.i 6 (.v [.F 7 1 3,.l 8 1 3 1,.o 9 (.idxa 4 (.t 8) (.i 0)),.o 10 (.fadr 9 0),.DF 11 10 1,.C 12 .eql 11 2,.M 2 12]))) (.seq (.r [.I 3 0] (.block 0 (.loop (f131l0)))) (f131r0)))
def f131:Qk:=⟨1,36,[.tmp 2],f131C,false⟩
@[simp] theorem f131B:f131.body=f131C∧f131.res=[.tmp 2]∧f131.keep=false:=⟨rfl,rfl,rfl⟩
def f132C:AC:= .r [.b 2 0,.f 4 false] (.v [.F 5 2 0,.l 6 2 0 1,.C 7 .eql 6 3,.M 8 7,.g 9 (.fad 2 1) 8 true,.g 10 (.ldf 2 1 1 false) 8 true,.g 11 (.m 1) 8 true,.g 12 (.bin .eql (.t 10) (.t 11)) 8 true,.P 13 8 12,.M 4 13])
def f132:Qk:=⟨2,14,[.tmp 4],f132C,false⟩
def f153C:AC:= .r [.T 2,.I 3 0] (.r [.M 9 0,.c 10 154 [.t 9,.i 800],.M 8 10,.E 11 8 0,.E 12 8 1,.E 13 8 2,.T 4,.S 4 0 4 11,.M 5 12,.M 6 13] (.seq (.r [.M 14 6,.o 15 (.un .not (.t 14)),.M 16 15,.g 17 (.m 5) 16 false,.g 18 (.bin .neq (.t 17) (.c (.str []))) 16 false,.Q 19 16 18] (.i 19 (.v [.o 20 (.mkst zG []),.n (.stn 2 0 4 (.t 20) zT),.I 3 2]))) (.seq (.r [.L 21 4 0 4,.c 22 54 [.t 21],.M 7 22] (.r [.M 23 7,.C 24 .neq 23 0] (.i 24 (.v [.o 25 (.mkst zG []),.M 26 7,.n (.stn 2 0 4 (.t 25) zT),.M 3 26])))) (.v [.L 27 4 0 4,.S 2 0 4 27,.I 3 0]))))
def f153:Qk:=⟨1,28,[.cell 2 4 true,.tmp 3],f153C,false⟩
def f154l0:AC:= .seq (.r [.M 63 0,.o 64 (.lens (.t 63)),.C 65 .gtr 64 0,.M 66 65,.g 67 (.m 0) 66 true,.g 68 (.idx (.t 67) (.i 0)) 66 true,.g 69 (.bin .neq (.t 68) (.c (.int .u8 41))) 66 true,.P 70 66 69] (.x 70 0)) (.block 1 (.seq (.r [.F 71 7 3,.l 72 7 3 1,.N 73 72,.C 74 .gtr 73 0] (.i 74 (.seq (.r [.M 75 0,.o 76 (.lens (.t 75)),.C 77 .lss 76 2,.M 78 77,.g 79 (.m 0) 78 false,.g 80 (.slcs (.t 79) none (some (.i 2))) 78 false,.g 81 (.bin .neq (.t 80) (.c (.str [44,32]))) 78 false,.Q 82 78 81] (.i 82 (.v [.L 83 7 0 4,.M 84 0,.S 4 0 4 83,.M 5 84,.f 6 false]))) (.q [.M 85 0,.o 86 (.slcs (.t 85) (some (.i 2)) none),.M 0 86])))) (.r [.M 88 0,.M 89 1,.C 90 .sub 89 1,.c 91 154 [.t 88,.t 90],.M 87 91,.E 92 87 0,.E 93 87 1,.E 94 87 2,.T 8,.S 8 0 4 92,.M 9 93,.M 10 94] (.seq (.r [.M 95 10,.o 96 (.un .not (.t 95))] (.i 96 (.v [.L 97 7 0 4,.M 98 0,.S 4 0 4 97,.M 5 98,.f 6 false]))) (.r [.F 99 7 3,.o 100 (.ldfm 7 3),.L 101 8 0 4,.o 102 (.mksl 4 [.t 101]),.A 103 56 4 100 102,.F 104 7 3,.n (.stfm 7 3 103)] (.q [.M 105 9,.M 0 105]))))))
def f154r0:AC:= .seq (.r [.M 106 0,.o 107 (.lens (.t 106)),.C 108 .eql 107 0] (.i 108 (.v [.L 109 7 0 4,.M 110 0,.S 4 0 4 109,.M 5 110,.f 6 false]))) (.seq (.z [.L 111 7 0 4,.M 112 0,.o 113 (.slcs (.t 112) (some (.i 1)) none),.S 4 0 4 111,.M 5 113,.f 6 true]) (.ret))
def f154C:AC:= .r [.T 4,.o 5 (.mov (.c (.str []))),.f 6 false] (.r [.o 11 (.mkst zG [(0,1,.i 2)]),.T 7,.n (.stn 7 0 4 (.t 11) zT)] (.seq (.r [.M 12 0,.o 13 (.lens (.t 12)),.C 14 .gtr 13 0,.M 15 14,.g 16 (.m 0) 15 true,.g 17 (.idx (.t 16) (.i 0)) 15 true,.g 18 (.bin .eql (.t 17) (.c (.int .u8 63))) 15 true,.P 19 15 18] (.i 19 (.r [.F 20 7 0,.n (.stf 7 0 1 (.i 1))] (.q [.M 21 0,.o 22 (.slcs (.t 21) (some (.i 1)) none),.M 0 22])))) (.r [.M 23 0,.c 24 155 [.t 23],.F 25 7 1,.S 7 1 1 24] (.seq (.r [.F 26 7 1,.l 27 7 1 1,.c 28 57 [.t 27],.o 29 (.un .not (.t 28)),.M 30 29,.g 31 (.m 1) 30 false,.g 32 (.bin .eql (.t 31) (.i 0)) 30 false,.Q 33 30 32] (.i 33 (.v [.L 34 7 0 4,.M 35 0,.S 4 0 4 34,.M 5 35,.f 6 false]))) (.r [.M 36 0,.F 37 7 1,.l 38 7 1 1,.o 39 (.lens (.t 38)),.o 40 (.slcs (.t 36) (some (.t 39)) none),.M 0 40] (.seq (.r [.F 41 7 0,.l 42 7 0 1,.C 43 .eql 42 1,.M 44 43,.g 45 (.m 0) 44 false,.g 46 (.lens (.t 45)) 44 false,.g 47 (.bin .eql (.t 46) (.i 0)) 44 false,.Q 48 44 47,.M 49 48,.g 50 (.m 0) 49 false,.g 51 (.idx (.t 50) (.i 0)) 49 false,.g 52 (.bin .neq (.t 51) (.c (.int .u8 40))) 49 false,.Q 53 49 52] (.i 53 (.v [.L 54 7 0 4,.M 55 0,.c 56 156 [.t 54,.t 55],.E 57 56 0,.E 58 56 1,.E 59 56 2,.S 4 0 4 57,.M 5 58,.M 6 59]))) (.r [.F 60 7 0,.n (.stf 7 0 1 (.i 3))] (.r [.M 61 0,.o 62 (.slcs (.t 61) (some (.i 1)) none),.M 0 62] (.seq (.block 0 (.loop (f154l0))) (f154r0))))))))))
def f154:Qk:=⟨2,114,[.cell 4 4 true,.tmp 5,.tmp 6],f154C,false⟩
def f155l0:AC:= .seq (.r [.M 4 3,.M 5 0,.o 6 (.lens (.t 5)),.B 7 .lss 4 6,.M 8 7,.g 9 (.m 0) 8 true,.g 10 (.m 3) 8 true,.g 11 (.idx (.t 9) (.t 10)) 8 true,.g 12 (.call 58 [.t 11]) 8 true,.g 13 (.m 12) 8 true,.g 14 (.m 0) 13 false,.g 15 (.m 3) 13 false,.g 16 (.idx (.t 14) (.t 15)) 13 false,.g 17 (.call 59 [.t 16]) 13 false,.g 18 (.pick (.t 13) (.c (.bool true)) (.t 17)) 8 true,.g 19 (.m 18) 8 true,.g 20 (.m 0) 19 false,.g 21 (.m 3) 19 false,.g 22 (.idx (.t 20) (.t 21)) 19 false,.g 23 (.bin .eql (.t 22) (.c (.int .u8 95))) 19 false,.g 24 (.pick (.t 19) (.c (.bool true)) (.t 23)) 8 true,.g 25 (.m 24) 8 true,.g 26 (.m 0) 25 false,.g 27 (.m 3) 25 false,.g 28 (.idx (.t 26) (.t 27)) 25 false,.g 29 (.bin .eql (.t 28) (.c (.int .u8 35))) 25 false,.g 30 (.pick (.t 25) (.c (.bool true)) (.t 29)) 8 true,.P 31 8 30] (.x 31 0)) (.block 1 (.q [.M 32 3,.C 33 .add 32 1,.M 3 33]))
def f155r0:AC:= .v [.M 34 0,.M 35 3,.o 36 (.slcs (.t 34) none (some (.t 35))),.M 2 36]
def f155C:AC:= .r [.o 2 (.mov (.c (.str [])))] (.r [.I 3 0] (.seq (.block 0 (.loop (f155l0))) (f155r0)))
def f155:Qk:=⟨1,37,[.tmp 2],f155C,false⟩
def f156l0:AC:= .seq (.r [.M 25 8,.C 26 .leq 25 5] (.x 26 0)) (.seq (.block 1 (.r [.M 29 7,.M 30 8,.c 31 63 [.t 30],.B 32 .eql 29 31,.M 33 32,.g 34 (.m 8) 33 true,.g 35 (.bin .neq (.t 34) (.i 0)) 33 true,.g 36 (.m 35) 33 true,.g 37 (.fad 2 0) 36 false,.g 38 (.ldf 2 0 1 false) 36 false,.g 39 (.bin .eql (.t 38) (.i 2)) 36 false,.g 40 (.pick (.t 36) (.c (.bool true)) (.t 39)) 33 true,.P 41 33 40] (.i 41 (.r [.M 42 8,.F 43 2 2,.S 2 2 1 42] (.seq (.z [.L 44 2 0 4,.M 45 1,.M 46 7,.o 47 (.lens (.t 46)),.o 48 (.bin .add (.i 1) (.t 47)),.o 49 (.slcs (.t 45) (some (.t 48)) none),.S 4 0 4 44,.M 5 49,.f 6 true]) (.ret)))))) (.q [.M 27 8,.C 28 .add 27 1,.M 8 28]))
def f156r0:AC:= .v [.L 50 2 0 4,.M 51 1,.S 4 0 4 50,.M 5 51,.f 6 false]
def f156C:AC:= .r [.b 2 0,.T 4,.o 5 (.mov (.c (.str []))),.f 6 false] (.seq (.r [.M 9 1,.o 10 (.lens (.t 9)),.C 11 .eql 10 0,.M 12 11,.g 13 (.m 1) 12 false,.g 14 (.idx (.t 13) (.i 0)) 12 false,.g 15 (.bin .neq (.t 14) (.c (.int .u8 58))) 12 false,.Q 16 12 15] (.i 16 (.seq (.z [.L 17 2 0 4,.M 18 1,.F 19 2 0,.l 20 2 0 1,.C 21 .eql 20 1,.S 4 0 4 17,.M 5 18,.M 6 21]) (.ret)))) (.r [.M 22 1,.o 23 (.slcs (.t 22) (some (.i 1)) none),.c 24 155 [.t 23],.M 7 24] (.seq (.r [.I 8 0] (.block 0 (.loop (f156l0)))) (f156r0))))
def f156:Qk:=⟨2,52,[.cell 4 4 true,.tmp 5,.tmp 6],f156C,false⟩
def f157l0:AC:= .r [.B 17 .lss 16 15] (.seq (.x 17 0) (.seq (.block 1 (.r [.X 18 4 14 16,.DT 19 18 4,.T 7,.S 7 0 4 19] (.q [.o 20 (.mvs 5),.L 21 7 0 4,.c 22 208 [.t 21],.o 23 (.mksl 4 [.t 22]),.A 24 56 4 20 23,.o 5 (.mvs 24)]))) (.q [.C 25 .add 16 1,.M 16 25])))
def f157r0:AC:= .v [.o 26 (.mvs 5),.L 27 1 0 2,.c 28 209 [.t 27],.A 29 56 4 26 28,.o 2 (.mvs 29),.I 3 0]
def f157C:AC:= .r [.b 1 0,.Z 2 4,.I 3 0] (.seq (.r [.L 8 1 0 2,.c 9 158 [.t 8],.M 4 9] (.r [.M 10 4,.C 11 .neq 10 0] (.i 11 (.v [.M 12 4,.Z 2 4,.M 3 12])))) (.r [.Z 5 4] (.seq (.r [.F 13 1 1,.l 14 1 1 1,.N 15 14,.I 16 0] (.block 0 (.loop (f157l0)))) (f157r0))))
def f157:Qk:=⟨1,30,[.tmp 2,.tmp 3],f157C,false⟩
@[simp] theorem f157B:f157.body=f157C∧f157.res=[.tmp 2,.tmp 3]∧f157.keep=false:=⟨rfl,rfl,rfl⟩
def f158l0:AC:= .r [.B 23 .lss 22 21] (.seq (.x 23 0) (.seq (.block 1 (.r [.M 24 22,.X 25 4 20 22,.DT 26 25 4,.T 4,.M 3 24,.S 4 0 4 26] (.seq (.r [.L 27 4 0 4,.c 28 6 [.t 27],.M 5 28] (.r [.M 29 5,.C 30 .neq 29 0] (.i 30 (.v [.M 31 5,.M 2 31])))) (.seq (.r [.F 32 4 0,.l 33 4 0 1,.C 34 .neq 33 2,.M 35 34,.g 36 (.ldf 4 0 4 true) 35 false,.g 37 (.call 159 [.t 36]) 35 false,.Q 38 35 37] (.i 38 (.v [.I 2 1]))) (.seq (.z [.M 39 3,.C 40 .gtr 39 0,.M 41 40,.g 42 (.fad 1 0) 41 true,.g 43 (.ldf 1 0 1 false) 41 true,.g 44 (.m 3) 41 true,.g 45 (.bin .sub (.t 44) (.i 1)) 41 true,.g 46 (.idxa 4 (.t 43) (.t 45)) 41 true,.g 47 (.ld 46 4 true) 41 true,.g 48 (.ldf 4 0 4 true) 41 true,.g 49 (.call 30 [.t 47,.t 48]) 41 true,.g 50 (.bin .geq (.t 49) (.i 0)) 41 true,.P 51 41 50]) (.i 51 (.v [.I 2 5]))))))) (.q [.C 52 .add 22 1,.M 22 52])))
def f158l1:AC:= .r [.B 57 .lss 56 55] (.seq (.x 57 2) (.seq (.block 3 (.r [.X 58 4 54 56,.DT 59 58 4,.T 7,.S 7 0 4 59] (.seq (.r [.L 60 7 0 4,.c 61 41 [.t 60],.M 8 61] (.r [.M 62 8,.C 63 .neq 62 0] (.i 63 (.v [.M 64 8,.M 2 64])))) (.seq (.r [.L 65 7 0 4,.c 66 165 [.t 65],.N 67 66,.C 68 .gtr 67 0] (.i 68 (.v [.I 2 13]))) (.r [.L 69 7 0 4,.c 70 173 [.t 69],.o 71 (.un .not (.t 70))] (.i 71 (.v [.I 2 10]))))))) (.q [.C 72 .add 56 1,.M 56 72])))
def f158r0:AC:= .v [.I 2 0]
def f158r1:AC:= .seq (.r [.F 53 1 1,.l 54 1 1 1,.N 55 54,.I 56 0] (.block 2 (.loop (f158l1)))) (f158r0)
def f158C:AC:= .r [.b 1 0,.I 2 0] (.seq (.r [.F 9 1 0,.l 10 1 0 1,.N 11 10,.C 12 .gtr 11 40,.M 13 12,.g 14 (.fad 1 1) 13 false,.g 15 (.ldf 1 1 1 false) 13 false,.g 16 (.lenl (.t 15)) 13 false,.g 17 (.bin .gtr (.t 16) (.i 40)) 13 false,.Q 18 13 17] (.i 18 (.v [.I 2 3]))) (.seq (.r [.F 19 1 0,.l 20 1 0 1,.N 21 20,.I 22 0] (.block 0 (.loop (f158l0)))) (f158r1)))
def f158:Qk:=⟨1,73,[.tmp 2],f158C,false⟩
@[simp] theorem f158B:f158.body=f158C∧f158.res=[.tmp 2]∧f158.keep=false:=⟨rfl,rfl,rfl⟩
def f159C:AC:= .r [.b 1 0,.f 2 false] (.seq (.r [.F 5 1 0,.l 6 1 0 1,.C 7 .eql 6 3] (.i 7 (.v [.L 8 1 0 4,.o 9 (.mksl 1 [.c (.str [122,101,114,111]),.c (.str [111,110,101])]),.c 10 160 [.t 8,.t 9],.M 11 10,.g 12 (.fad 1 3) 11 true,.g 13 (.ldf 1 3 1 false) 11 true,.g 14 (.lenl (.t 13)) 11 true,.g 15 (.bin .eql (.t 14) (.i 0)) 11 true,.P 16 11 15,.M 2 16]))) (.seq (.r [.F 17 1 0,.l 18 1 0 1,.C 19 .neq 18 2] (.i 19 (.v [.f 2 false]))) (.r [.F 21 1 1,.l 22 1 1 1,.c 23 73 [.t 22,.c (.str [101,35])],.M 20 23,.E 24 20 0,.E 25 20 1,.M 3 24,.M 4 25] (.seq (.r [.F 26 1 2,.l 27 1 2 1] (.block 0 (.seq (.r [.C 29 .eql 27 1,.M 28 29] (.cond (.t 28) (.skip) (.q [.C 30 .eql 27 5,.M 28 30]))) (.cond (.t 28) (.v [.f 2 true]) (.r [.C 32 .eql 27 4,.M 31 32] (.cond (.t 31) (.v [.F 33 1 1,.l 34 1 1 1,.o 35 (.bin .eql (.t 34) (.c (.str [103]))),.M 36 35,.g 37 (.m 4) 36 false,.g 38 (.m 37) 36 false,.g 39 (.m 3) 38 true,.g 40 (.call 163 [.t 39]) 38 true,.g 41 (.pick (.t 38) (.t 40) (.c (.bool false))) 36 false,.Q 42 36 41,.M 2 42]) (.seq (.r [.C 44 .eql 27 0,.M 43 44] (.cond (.t 43) (.skip) (.r [.C 45 .eql 27 2,.M 43 45] (.cond (.t 43) (.skip) (.q [.C 46 .eql 27 3,.M 43 46]))))) (.i 43 (.v [.M 47 4,.M 48 47,.g 49 (.m 3) 48 true,.g 50 (.call 163 [.t 49]) 48 true,.P 51 48 50,.M 2 51]))))))))) (.v [.f 2 false])))))
def f159:Qk:=⟨1,52,[.tmp 2],f159C,false⟩
@[simp] theorem f159B:f159.body=f159C∧f159.res=[.tmp 2]∧f159.keep=false:=⟨rfl,rfl,rfl⟩
def f160C:AC:= .r [.b 2 0,.f 4 false] (.v [.F 5 2 0,.l 6 2 0 1,.C 7 .eql 6 3,.M 8 7,.g 9 (.m 1) 8 true,.g 10 (.fad 2 1) 8 true,.g 11 (.ldf 2 1 1 false) 8 true,.g 12 (.call 161 [.t 9,.t 11]) 8 true,.P 13 8 12,.M 4 13])
def f160:Qk:=⟨2,14,[.tmp 4],f160C,false⟩
@[simp] theorem f160B:f160.body=f160C∧f160.res=[.tmp 4]∧f160.keep=false:=⟨rfl,rfl,rfl⟩
def f161C:AC:= .r [.f 4 false] (.v [.M 5 0,.M 6 1,.c 7 162 [.t 5,.t 6],.C 8 .geq 7 0,.M 4 8])
def f161:Qk:=⟨2,9,[.tmp 4],f161C,false⟩
@[simp] theorem f161B:f161.body=f161C∧f161.res=[.tmp 4]∧f161.keep=false:=⟨rfl,rfl,rfl⟩
def f162l0:AC:= .r [.B 9 .lss 8 7] (.seq (.x 9 0) (.seq (.block 1 (.r [.M 10 8,.M 5 10] (.r [.M 11 1,.M 12 0,.M 13 5,.X 14 1 12 13,.DF 15 14 1,.B 16 .eql 11 15] (.i 16 (.v [.M 17 5,.M 4 17]))))) (.q [.C 18 .add 8 1,.M 8 18])))
def f162r0:AC:= .v [.I 4 (-1)]
def f162C:AC:= .r [.I 4 0] (.seq (.r [.M 6 0,.N 7 6,.I 8 0] (.block 0 (.loop (f162l0)))) (f162r0))
def f162:Qk:=⟨2,19,[.tmp 4],f162C,false⟩
@[simp] theorem f162B:f162.body=f162C∧f162.res=[.tmp 4]∧f162.keep=false:=⟨rfl,rfl,rfl⟩
def f163C:AC:= .r [.f 2 false] (.v [.M 3 0,.o 4 (.bin .neq (.t 3) (.c (.str []))),.M 5 4,.g 6 (.m 0) 5 true,.g 7 (.call 164 [.t 6,.c (.str [48,49,50,51,52,53,54,55,56,57])]) 5 true,.g 8 (.bin .eql (.t 7) (.c (.str []))) 5 true,.P 9 5 8,.M 2 9])
def f163:Qk:=⟨1,10,[.tmp 2],f163C,false⟩
@[simp] theorem f163B:f163.body=f163C∧f163.res=[.tmp 2]∧f163.keep=false:=⟨rfl,rfl,rfl⟩
def f165C:AC:= .r [.b 1 0,.Z 2 4] (.v [.L 3 1 0 4,.c 4 166 [.t 3,.i 1],.o 2 (.mvs 4)])
def f165:Qk:=⟨1,5,[.tmp 2],f165C,false⟩
def f166C:AC:= .r [.b 2 0,.o 3 (.gbox (.t 1)),.Z 4 4] (.r [.o 5 (.galloc [.gs 0 0 0 0])] (.r [.L 6 2 0 4,.o 7 (.mkfn 167 [.t 3,.t 5]),.c 8 168 [.t 6,.t 7]] (.v [.o 9 (.ldg 5 1 false),.c 10 169 [.t 9],.o 4 (.mvs 10)])))
def f166:Qk:=⟨2,11,[.tmp 4],f166C,false⟩
def f167C:AC:= .r [.b 3 0] (.r [.F 4 3 0,.l 5 3 0 1,.o 6 (.ldg 1 1 false),.B 7 .eql 5 6] (.i 7 (.z [.o 8 (.ldg 2 1 false),.L 9 3 0 4,.N 10 8,.o 11 (.mksl 4 [.c (.agg zT)]),.o 12 (.appM 56 4 (.t 8) (.t 11)),.X 13 4 12 10,.n (.stq 13 4 (.t 9) 2),.n (.st 2 1 (.t 12))])))
def f167:Qk:=⟨3,14,[],f167C,true⟩
def f168l0:AC:= .r [.B 13 .lss 12 11] (.seq (.x 13 0) (.seq (.block 1 (.r [.X 14 4 10 12,.DT 15 14 4,.T 5,.S 5 0 4 15] (.q [.L 16 5 0 4,.M 17 1,.c 18 168 [.t 16,.t 17]]))) (.q [.C 19 .add 12 1,.M 12 19])))
def f168C:AC:= .r [.b 2 0] (.r [.M 6 1,.L 7 2 0 4,.o 8 (.callv (.t 6) [.t 7])] (.r [.F 9 2 3,.l 10 2 3 1,.N 11 10,.I 12 0] (.block 0 (.loop (f168l0)))))
def f168:Qk:=⟨2,20,[],f168C,true⟩
@[simp] theorem f168B:f168.body=f168C∧f168.res=[]∧f168.keep=true:=⟨rfl,rfl,rfl⟩
def f169l0:AC:= .r [.B 11 .lss 10 9] (.seq (.x 11 0) (.seq (.block 1 (.r [.M 12 10,.M 3 12] (.q [.M 13 0,.M 14 3,.M 15 0,.M 16 3,.X 17 4 15 16,.o 18 (.ldg 17 4 true),.c 19 48 [.t 18],.X 20 4 13 14,.n (.st 20 4 (.t 19))]))) (.q [.C 21 .add 10 1,.M 10 21])))
def f169r0:AC:= .v [.M 22 0,.o 2 (.frz 22 4)]
def f169C:AC:= .r [.Z 2 4] (.r [.M 4 0,.c 5 170 [.t 4,.c (.fn 30 [])]] (.r [.M 6 0,.c 7 172 [.t 6,.c (.fn 171 [])],.M 0 7] (.seq (.r [.M 8 0,.N 9 8,.I 10 0] (.block 0 (.loop (f169l0)))) (f169r0))))
def f169:Qk:=⟨1,23,[.tmp 2],f169C,false⟩
@[simp] theorem f169B:f169.body=f169C∧f169.res=[.tmp 2]∧f169.keep=false:=⟨rfl,rfl,rfl⟩
def f171C:AC:= .r [.b 2 0,.b 3 1,.f 4 false] (.v [.L 5 2 0 4,.L 6 3 0 4,.c 7 30 [.t 5,.t 6],.C 8 .eql 7 0,.M 4 8])
def f171:Qk:=⟨2,9,[.tmp 4],f171C,false⟩
def f172l0:AC:= .seq (.r [.M 32 7,.M 33 6,.N 34 33,.B 35 .lss 32 34] (.x 35 2)) (.seq (.block 3 (.seq (.z [.M 38 1,.M 39 6,.M 40 7,.X 41 4 39 40,.o 42 (.ldg 41 4 true),.M 43 6,.M 44 7,.C 45 .sub 44 1,.X 46 4 43 45,.o 47 (.ldg 46 4 true),.o 48 (.callv (.t 38) [.t 42,.t 47]),.o 49 (.un .not (.t 48))]) (.i 49 (.r [.M 50 0,.M 51 5,.M 52 6,.M 53 7,.X 54 4 52 53,.o 55 (.ldg 54 4 true),.X 56 4 50 51,.n (.st 56 4 (.t 55))] (.q [.M 57 5,.C 58 .add 57 1,.M 5 58]))))) (.q [.M 36 7,.C 37 .add 36 1,.M 7 37]))
def f172r0:AC:= .r [.M 59 0,.M 60 5,.o 61 (.slcl 4 (.t 59) (some (.t 60)) none),.n (.clr 4 (.t 61))] (.v [.M 62 0,.M 63 5,.o 64 (.slcl 4 (.t 62) none (some (.t 63))),.M 4 64])
def f172r1:AC:= .q [.M 16 5,.C 17 .add 16 1,.M 5 17]
def f172l1:AC:= .seq (.r [.M 12 5,.M 13 0,.N 14 13,.B 15 .lss 12 14] (.x 15 0)) (.seq (.block 1 (.seq (.z [.M 18 1,.M 19 0,.M 20 5,.X 21 4 19 20,.o 22 (.ldg 21 4 true),.M 23 0,.M 24 5,.C 25 .sub 24 1,.X 26 4 23 25,.o 27 (.ldg 26 4 true),.o 28 (.callv (.t 18) [.t 22,.t 27])]) (.i 28 (.r [.M 29 0,.M 30 5,.o 31 (.slcl 4 (.t 29) (some (.t 30)) none),.M 6 31] (.seq (.r [.I 7 1] (.block 2 (.loop (f172l0)))) (f172r0)))))) (f172r1))
def f172r2:AC:= .v [.M 65 0,.M 4 65]
def f172C:AC:= .r [.Z 4 4] (.seq (.r [.M 8 0,.N 9 8,.C 10 .lss 9 2] (.i 10 (.v [.M 11 0,.M 4 11]))) (.seq (.r [.I 5 1] (.block 0 (.loop (f172l1)))) (f172r2)))
def f172:Qk:=⟨2,66,[.tmp 4],f172C,true⟩
@[simp] theorem f172B:f172.body=f172C∧f172.res=[.tmp 4]∧f172.keep=true:=⟨rfl,rfl,rfl⟩
def f173C:AC:= .r [.b 1 0,.f 2 false] (.r [.L 6 1 0 4,.c 7 174 [.t 6],.M 5 7,.E 8 5 0,.E 9 5 1,.T 3,.S 3 0 4 8,.M 4 9] (.v [.M 10 4,.C 11 .eql 10 0,.M 12 11,.g 13 (.ldf 3 0 4 true) 12 true,.g 14 (.ldf 1 0 4 true) 12 true,.g 15 (.call 177 [.t 13,.t 14]) 12 true,.P 16 12 15,.M 17 16,.g 18 (.ldf 1 0 4 true) 17 true,.g 19 (.call 207 [.t 18,.c (.fn 206 [])]) 17 true,.P 20 17 19,.M 2 20]))
def f173:Qk:=⟨1,21,[.tmp 2],f173C,false⟩
@[simp] theorem f173B:f173.body=f173C∧f173.res=[.tmp 2]∧f173.keep=false:=⟨rfl,rfl,rfl⟩
def f174C:AC:= .r [.b 1 0,.T 2,.I 3 0] (.seq (.r [.L 7 1 0 4,.c 8 41 [.t 7],.M 4 8] (.r [.M 9 4,.C 10 .neq 9 0] (.i 10 (.v [.o 11 (.mkst zG []),.M 12 4,.n (.stn 2 0 4 (.t 11) zT),.M 3 12])))) (.r [.L 14 1 0 4,.c 15 175 [.t 14],.M 13 15,.E 16 13 0,.E 17 13 1,.T 5,.S 5 0 4 16,.M 6 17] (.seq (.r [.M 18 6,.C 19 .eql 18 0] (.i 19 (.q [.L 20 5 0 4,.c 21 6 [.t 20],.M 6 21]))) (.seq (.r [.M 22 6,.C 23 .neq 22 0] (.i 23 (.v [.o 24 (.mkst zG []),.M 25 6,.n (.stn 2 0 4 (.t 24) zT),.M 3 25]))) (.v [.L 26 5 0 4,.S 2 0 4 26,.I 3 0])))))
def f174:Qk:=⟨1,27,[.cell 2 4 true,.tmp 3],f174C,false⟩
@[simp] theorem f174B:f174.body=f174C∧f174.res=[.cell 2 4 true,.tmp 3]∧f174.keep=false:=⟨rfl,rfl,rfl⟩
def f175l0:AC:= .r [.B 22 .lss 21 20] (.seq (.x 22 0) (.seq (.block 1 (.r [.X 23 4 19 21,.DT 24 23 4,.T 6,.S 6 0 4 24] (.r [.L 26 6 0 4,.c 27 175 [.t 26],.M 25 27,.E 28 25 0,.E 29 25 1,.T 7,.S 7 0 4 28,.M 8 29] (.seq (.r [.M 30 8,.C 31 .neq 30 0] (.i 31 (.v [.o 32 (.mkst zG []),.M 33 8,.n (.stn 2 0 4 (.t 32) zT),.M 3 33]))) (.q [.F 34 4 3,.o 35 (.ldfm 4 3),.L 36 7 0 4,.o 37 (.mksl 4 [.t 36]),.A 38 56 4 35 37,.F 39 4 3,.n (.stfm 4 3 38)]))))) (.q [.C 40 .add 21 1,.M 21 40])))
def f175r0:AC:= .seq (.r [.F 41 1 1,.l 42 1 1 1] (.block 2 (.seq (.r [.o 44 (.bin .eql (.t 42) (.c (.str [102,115,116]))),.M 43 44] (.cond (.t 43) (.skip) (.r [.o 45 (.bin .eql (.t 42) (.c (.str [115,110,100]))),.M 43 45] (.cond (.t 43) (.skip) (.r [.o 46 (.bin .eql (.t 42) (.c (.str [100,101,99]))),.M 43 46] (.cond (.t 43) (.skip) (.r [.o 47 (.bin .eql (.t 42) (.c (.str [97,100,101,99]))),.M 43 47] (.cond (.t 43) (.skip) (.r [.o 48 (.bin .eql (.t 42) (.c (.str [111,112,101,110]))),.M 43 48] (.cond (.t 43) (.skip) (.q [.o 49 (.bin .eql (.t 42) (.c (.str [114,101,97,100]))),.M 43 49]))))))))))) (.cond (.t 43) (.v [.L 50 4 0 4,.c 51 176 [.t 50],.S 2 0 4 51,.I 3 0]) (.r [.o 53 (.bin .eql (.t 42) (.c (.str [120,111,114]))),.M 52 53] (.cond (.t 52) (.v [.F 54 4 3,.l 55 4 3 1,.c 56 178 [.t 55],.E 57 56 0,.E 58 56 1,.S 2 0 4 57,.M 3 58]) (.seq (.r [.o 60 (.bin .eql (.t 42) (.c (.str [109,117,108]))),.M 59 60] (.cond (.t 59) (.skip) (.r [.o 61 (.bin .eql (.t 42) (.c (.str [105,110,118]))),.M 59 61] (.cond (.t 59) (.skip) (.q [.o 62 (.bin .eql (.t 42) (.c (.str [111,110,101]))),.M 59 62]))))) (.cond (.t 59) (.r [.L 64 4 0 4,.c 65 186 [.t 64],.M 63 65,.E 66 63 0,.E 67 63 1,.o 9 (.mvs 66),.M 10 67] (.seq (.r [.M 68 10,.C 69 .neq 68 0] (.i 69 (.v [.o 70 (.mkst zG []),.M 71 10,.n (.stn 2 0 4 (.t 70) zT),.M 3 71]))) (.v [.M 72 9,.c 73 196 [.t 72],.E 74 73 0,.E 75 73 1,.S 2 0 4 74,.M 3 75]))) (.r [.o 77 (.bin .eql (.t 42) (.c (.str [101,120,112]))),.M 76 77] (.i 76 (.seq (.z [.F 78 4 3,.l 79 4 3 1,.o 80 (.idxa 4 (.t 79) (.i 0)),.DT 81 80 4,.F 82 4 3,.l 83 4 3 1,.o 84 (.idxa 4 (.t 83) (.i 1)),.DT 85 84 4,.c 86 199 [.t 81,.t 85],.E 87 86 0,.E 88 86 1,.S 2 0 4 87,.M 3 88]) (.ret)))))))))))) (.v [.L 89 4 0 4,.S 2 0 4 89,.I 3 0])
def f175C:AC:= .r [.b 1 0,.T 2,.I 3 0] (.seq (.r [.F 11 1 0,.l 12 1 0 1,.C 13 .neq 12 3] (.i 13 (.v [.L 14 1 0 4,.S 2 0 4 14,.I 3 0]))) (.r [.F 15 1 1,.l 16 1 1 1,.o 17 (.mkst zG [(0,1,.i 3),(1,1,.t 16)]),.T 4,.n (.stn 4 0 4 (.t 17) zT)] (.seq (.r [.F 18 1 3,.l 19 1 3 1,.N 20 19,.I 21 0] (.block 0 (.loop (f175l0)))) (f175r0))))
def f175:Qk:=⟨1,90,[.cell 2 4 true,.tmp 3],f175C,false⟩
@[simp] theorem f175B:f175.body=f175C∧f175.res=[.cell 2 4 true,.tmp 3]∧f175.keep=false:=⟨rfl,rfl,rfl⟩
def f176C:AC:= .r [.b 1 0,.T 2] (.r [.F 7 1 3,.l 8 1 3 1,.o 9 (.idxa 4 (.t 8) (.i 0)),.DT 10 9 4,.T 3,.S 3 0 4 10] (.r [.T 4] (.seq (.r [.F 11 1 3,.l 12 1 3 1,.N 13 12,.C 14 .gtr 13 1] (.i 14 (.q [.F 15 1 3,.l 16 1 3 1,.o 17 (.idxa 4 (.t 16) (.i 1)),.DT 18 17 4,.S 4 0 4 18]))) (.r [.f 5 false] (.r [.I 6 0] (.seq (.r [.F 19 1 1,.l 20 1 1 1] (.block 0 (.r [.o 22 (.bin .eql (.t 20) (.c (.str [102,115,116]))),.M 21 22] (.cond (.t 21) (.q [.L 23 3 0 4,.c 24 71 [.t 23,.c (.str [112,97,105,114])],.M 5 24]) (.r [.o 26 (.bin .eql (.t 20) (.c (.str [115,110,100]))),.M 25 26] (.cond (.t 25) (.q [.L 27 3 0 4,.c 28 71 [.t 27,.c (.str [112,97,105,114])],.M 5 28,.I 6 1]) (.r [.o 30 (.bin .eql (.t 20) (.c (.str [100,101,99]))),.M 29 30] (.cond (.t 29) (.z [.L 31 3 0 4,.c 32 71 [.t 31,.c (.str [101,110,99])],.M 33 32,.g 34 (.fad 3 3) 33 true,.g 35 (.ldf 3 3 1 false) 33 true,.g 36 (.idxa 4 (.t 35) (.i 1)) 33 true,.g 37 (.ld 36 4 true) 33 true,.g 38 (.ldf 4 0 4 true) 33 true,.g 39 (.call 177 [.t 37,.t 38]) 33 true,.P 40 33 39,.M 5 40]) (.r [.o 42 (.bin .eql (.t 20) (.c (.str [97,100,101,99]))),.M 41 42] (.cond (.t 41) (.z [.L 43 3 0 4,.c 44 71 [.t 43,.c (.str [97,101,110,99])],.M 45 44,.g 46 (.fad 3 3) 45 true,.g 47 (.ldf 3 3 1 false) 45 true,.g 48 (.idxa 4 (.t 47) (.i 1)) 45 true,.g 49 (.ld 48 4 true) 45 true,.g 50 (.call 71 [.t 49,.c (.str [112,107])]) 45 true,.P 51 45 50,.M 52 51,.g 53 (.fad 3 3) 52 true,.g 54 (.ldf 3 3 1 false) 52 true,.g 55 (.idxa 4 (.t 54) (.i 1)) 52 true,.g 56 (.fadr 55 3) 52 true,.g 57 (.ld 56 1 false) 52 true,.g 58 (.idxa 4 (.t 57) (.i 0)) 52 true,.g 59 (.ld 58 4 true) 52 true,.g 60 (.ldf 4 0 4 true) 52 true,.g 61 (.call 177 [.t 59,.t 60]) 52 true,.P 62 52 61,.M 5 62]) (.r [.o 64 (.bin .eql (.t 20) (.c (.str [111,112,101,110]))),.M 63 64] (.cond (.t 63) (.z [.L 65 3 0 4,.c 66 71 [.t 65,.c (.str [115,105,103,110])],.M 67 66,.g 68 (.ldf 4 0 4 true) 67 true,.g 69 (.call 71 [.t 68,.c (.str [112,107])]) 67 true,.P 70 67 69,.M 71 70,.g 72 (.fad 3 3) 71 true,.g 73 (.ldf 3 3 1 false) 71 true,.g 74 (.idxa 4 (.t 73) (.i 1)) 71 true,.g 75 (.ld 74 4 true) 71 true,.g 76 (.fad 4 3) 71 true,.g 77 (.ldf 4 3 1 false) 71 true,.g 78 (.idxa 4 (.t 77) (.i 0)) 71 true,.g 79 (.ld 78 4 true) 71 true,.g 80 (.call 177 [.t 75,.t 79]) 71 true,.P 81 71 80,.M 5 81]) (.r [.o 83 (.bin .eql (.t 20) (.c (.str [114,101,97,100]))),.M 82 83] (.i 82 (.q [.L 84 3 0 4,.c 85 71 [.t 84,.c (.str [115,105,103,110])],.M 5 85]))))))))))))))) (.seq (.r [.M 86 5] (.i 86 (.v [.F 87 3 3,.l 88 3 3 1,.M 89 6,.X 90 4 88 89,.DT 91 90 4,.S 2 0 4 91]))) (.v [.L 92 1 0 4,.S 2 0 4 92]))))))))
def f176:Qk:=⟨1,93,[.cell 2 4 true],f176C,false⟩
@[simp] theorem f176B:f176.body=f176C∧f176.res=[.cell 2 4 true]∧f176.keep=false:=⟨rfl,rfl,rfl⟩
def f177C:AC:= .r [.b 2 0,.b 3 1,.f 4 false] (.v [.L 5 2 0 4,.L 6 3 0 4,.c 7 30 [.t 5,.t 6],.C 8 .eql 7 0,.M 4 8])
def f177:Qk:=⟨2,9,[.tmp 4],f177C,false⟩
@[simp] theorem f177B:f177.body=f177C∧f177.res=[.tmp 4]∧f177.keep=false:=⟨rfl,rfl,rfl⟩
def f178l0:AC:= .r [.B 18 .lss 17 16] (.seq (.x 18 0) (.seq (.block 1 (.r [.X 19 4 15 17,.DT 20 19 4,.T 7,.S 7 0 4 20] (.q [.M 21 5,.L 22 7 0 4,.c 23 182 [.t 22],.c 24 183 [.t 21,.t 23],.o 5 (.mvs 24)]))) (.q [.C 25 .add 17 1,.M 17 25])))
def f178r0:AC:= .r [.M 26 5,.c 27 184 [.t 26],.o 5 (.mvs 27)] (.r [.T 8] (.seq (.r [.M 28 5,.N 29 28] (.block 2 (.r [.C 33 .eql 29 0,.M 32 33] (.cond (.t 32) (.q [.o 34 (.mkst zG [(0,1,.i 3),(1,1,.c (.str [122,101,114,111]))]),.n (.stn 8 0 4 (.t 34) zT)]) (.r [.C 36 .eql 29 1,.M 35 36] (.cond (.t 35) (.q [.M 37 5,.o 38 (.idxa 4 (.t 37) (.i 0)),.DT 39 38 4,.S 8 0 4 39]) (.q [.M 30 5,.o 31 (.mkst zT [(0,1,.i 3),(1,1,.c (.str [120,111,114])),(3,1,.t 30)]),.S 8 0 4 31]))))))) (.seq (.r [.L 40 8 0 4,.c 41 6 [.t 40],.C 42 .neq 41 0] (.i 42 (.v [.o 43 (.mkst zG []),.n (.stn 2 0 4 (.t 43) zT),.I 3 3]))) (.v [.L 44 8 0 4,.S 2 0 4 44,.I 3 0]))))
def f178C:AC:= .r [.T 2,.I 3 0] (.seq (.r [.M 9 0,.c 10 179 [.t 9,.c (.sl true 4 [])],.M 4 10] (.r [.M 11 4,.C 12 .neq 11 0] (.i 12 (.v [.o 13 (.mkst zG []),.M 14 4,.n (.stn 2 0 4 (.t 13) zT),.M 3 14])))) (.r [.Z 5 4] (.seq (.r [.M 15 0,.N 16 15,.I 17 0] (.block 0 (.loop (f178l0)))) (f178r0))))
def f178:Qk:=⟨1,45,[.cell 2 4 true,.tmp 3],f178C,false⟩
@[simp] theorem f178B:f178.body=f178C∧f178.res=[.cell 2 4 true,.tmp 3]∧f178.keep=false:=⟨rfl,rfl,rfl⟩
def f179l0:AC:= .r [.B 17 .lss 16 15] (.seq (.x 17 0) (.seq (.block 1 (.r [.X 18 4 14 16,.DT 19 18 4,.T 6,.S 6 0 4 19] (.r [.L 20 6 0 4,.c 21 6 [.t 20],.M 7 21] (.r [.M 22 7,.C 23 .neq 22 0] (.i 23 (.v [.M 24 7,.M 4 24])))))) (.q [.C 25 .add 16 1,.M 16 25])))
def f179r0:AC:= .v [.I 4 0]
def f179C:AC:= .r [.I 4 0] (.seq (.r [.M 8 0,.N 9 8,.C 10 .gtr 9 200] (.i 10 (.v [.I 4 3]))) (.seq (.r [.M 11 0,.M 12 1,.o 13 (.mksl 1 [.t 11,.t 12]),.c 14 180 [.t 13],.N 15 14,.I 16 0] (.block 0 (.loop (f179l0)))) (f179r0)))
def f179:Qk:=⟨2,26,[.tmp 4],f179C,false⟩
@[simp] theorem f179B:f179.body=f179C∧f179.res=[.tmp 4]∧f179.keep=false:=⟨rfl,rfl,rfl⟩
def f180l0:AC:= .r [.B 12 .lss 11 10] (.seq (.x 12 0) (.seq (.block 1 (.r [.X 13 1 9 11,.DF 14 13 1,.o 5 (.mvs 14)] (.r [.M 15 3,.M 16 5,.N 17 16,.B 18 .add 15 17,.M 3 18] (.r [.M 19 3,.C 20 .lss 19 0] (.i 20 (.bad)))))) (.q [.C 22 .add 11 1,.M 11 22])))
def f180l1:AC:= .r [.B 28 .lss 27 26] (.seq (.x 28 2) (.seq (.block 3 (.r [.X 29 1 25 27,.DF 30 29 1,.o 8 (.mvs 30)] (.q [.o 31 (.mvs 6),.M 32 8,.A 33 56 4 31 32,.o 6 (.mvs 33)]))) (.q [.C 34 .add 27 1,.M 27 34])))
def f180r0:AC:= .v [.M 35 6,.o 2 (.mvs 35)]
def f180r1:AC:= .r [.M 23 3,.c 24 181 [.c (.gs 0 0 0 0),.t 23],.o 6 (.mvs 24)] (.seq (.r [.M 25 0,.N 26 25,.I 27 0] (.block 2 (.loop (f180l1)))) (f180r0))
def f180C:AC:= .r [.Z 2 4] (.r [.I 3 0] (.seq (.r [.M 9 0,.N 10 9,.I 11 0] (.block 0 (.loop (f180l0)))) (f180r1)))
def f180:Qk:=⟨1,36,[.tmp 2],f180C,false⟩
@[simp] theorem f180B:f180.body=f180C∧f180.res=[.tmp 2]∧f180.keep=false:=⟨rfl,rfl,rfl⟩
def f182l0:AC:= .r [.B 34 .lss 33 32] (.seq (.x 34 1) (.seq (.block 2 (.r [.X 35 4 31 33,.DT 36 35 4,.T 5,.S 5 0 4 36] (.q [.M 37 3,.L 38 5 0 4,.c 39 182 [.t 38],.c 40 183 [.t 37,.t 39],.o 3 (.mvs 40)]))) (.q [.C 41 .add 33 1,.M 33 41])))
def f182r0:AC:= .v [.M 42 3,.o 2 (.mvs 42)]
def f182r1:AC:= .v [.L 43 1 0 4,.o 44 (.mksl 4 [.t 43]),.o 2 (.mvs 44)]
def f182C:AC:= .r [.b 1 0,.Z 2 4] (.seq (.block 0 (.r [.F 7 1 0,.l 8 1 0 1,.C 9 .eql 8 3,.M 10 9,.g 11 (.fad 1 1) 10 true,.g 12 (.ldf 1 1 1 false) 10 true,.g 13 (.bin .eql (.t 12) (.c (.str [122,101,114,111]))) 10 true,.P 14 10 13,.M 15 14,.g 16 (.fad 1 3) 15 true,.g 17 (.ldf 1 3 1 false) 15 true,.g 18 (.lenl (.t 17)) 15 true,.g 19 (.bin .eql (.t 18) (.i 0)) 15 true,.P 20 15 19,.M 6 20] (.cond (.t 6) (.v [.Z 2 4]) (.r [.F 22 1 0,.l 23 1 0 1,.C 24 .eql 23 3,.M 25 24,.g 26 (.fad 1 1) 25 true,.g 27 (.ldf 1 1 1 false) 25 true,.g 28 (.bin .eql (.t 27) (.c (.str [120,111,114]))) 25 true,.P 29 25 28,.M 21 29] (.i 21 (.r [.Z 3 4] (.seq (.r [.F 30 1 3,.l 31 1 3 1,.N 32 31,.I 33 0] (.block 1 (.loop (f182l0)))) (f182r0)))))))) (f182r1))
def f182:Qk:=⟨1,45,[.tmp 2],f182C,false⟩
@[simp] theorem f182B:f182.body=f182C∧f182.res=[.tmp 2]∧f182.keep=false:=⟨rfl,rfl,rfl⟩
def f183l0:AC:= .seq (.r [.M 7 0,.N 8 7,.C 9 .gtr 8 0,.M 10 9,.g 11 (.m 1) 10 true,.g 12 (.lenl (.t 11)) 10 true,.g 13 (.bin .gtr (.t 12) (.i 0)) 10 true,.P 14 10 13] (.x 14 0)) (.block 1 (.seq (.z [.M 15 0,.o 16 (.idxa 4 (.t 15) (.i 0)),.DT 17 16 4,.M 18 1,.o 19 (.idxa 4 (.t 18) (.i 0)),.DT 20 19 4,.c 21 30 [.t 17,.t 20],.M 6 21]) (.block 2 (.r [.M 27 6,.C 28 .lss 27 0,.M 26 28] (.cond (.t 26) (.z [.o 29 (.mvs 5),.M 30 0,.o 31 (.idxa 4 (.t 30) (.i 0)),.DT 32 31 4,.o 33 (.mksl 4 [.t 32]),.A 34 56 4 29 33,.M 35 0,.o 36 (.slcl 4 (.t 35) (some (.i 1)) none),.o 5 (.mvs 34),.o 0 (.mvs 36)]) (.r [.M 38 6,.C 39 .gtr 38 0,.M 37 39] (.cond (.t 37) (.z [.o 40 (.mvs 5),.M 41 1,.o 42 (.idxa 4 (.t 41) (.i 0)),.DT 43 42 4,.o 44 (.mksl 4 [.t 43]),.A 45 56 4 40 44,.M 46 1,.o 47 (.slcl 4 (.t 46) (some (.i 1)) none),.o 5 (.mvs 45),.o 1 (.mvs 47)]) (.z [.M 22 0,.o 23 (.slcl 4 (.t 22) (some (.i 1)) none),.M 24 1,.o 25 (.slcl 4 (.t 24) (some (.i 1)) none),.o 0 (.mvs 23),.o 1 (.mvs 25)]))))))))
def f183r0:AC:= .v [.o 48 (.mvs 5),.M 49 0,.A 50 56 4 48 49,.M 51 1,.A 52 56 4 50 51,.o 4 (.mvs 52)]
def f183C:AC:= .r [.Z 4 4] (.r [.Z 5 4] (.seq (.block 0 (.loop (f183l0))) (f183r0)))
def f183:Qk:=⟨2,53,[.tmp 4],f183C,false⟩
@[simp] theorem f183B:f183.body=f183C∧f183.res=[.tmp 4]∧f183.keep=false:=⟨rfl,rfl,rfl⟩
def f184l0:AC:= .r [.B 12 .lss 11 10] (.seq (.x 12 0) (.seq (.block 1 (.r [.M 13 11,.X 14 4 9 11,.DT 15 14 4,.T 5,.M 4 13,.S 5 0 4 15] (.r [.M 17 3,.M 18 4,.L 19 5 0 4,.L 20 5 0 4,.c 21 185 [.t 19,.c (.sl true 1 []),.t 20],.M 16 21,.E 22 16 0,.E 23 16 1,.X 24 4 17 18,.n (.st 24 4 (.t 22))] (.r [.M 25 3,.M 26 4,.F 27 5 3,.l 28 5 3 1,.c 29 184 [.t 28],.X 30 4 25 26,.o 31 (.fadr 30 3),.n (.stm 31 29)] (.r [.F 32 5 3,.l 33 5 3 1,.N 34 33,.C 35 .eql 34 0] (.i 35 (.q [.M 36 3,.M 37 4,.X 38 4 36 37,.o 39 (.fadr 38 3),.n (.st 39 1 (.c (.sl true 4 [])))]))))))) (.q [.C 40 .add 11 1,.M 11 40])))
def f184r0:AC:= .v [.M 41 3,.o 2 (.frz 41 4)]
def f184C:AC:= .r [.Z 2 4] (.r [.M 6 0,.N 7 6,.o 8 (.mkg 56 4 zT (.t 7)),.M 3 8] (.seq (.r [.M 9 0,.N 10 9,.I 11 0] (.block 0 (.loop (f184l0)))) (f184r0)))
def f184:Qk:=⟨1,42,[.tmp 2],f184C,false⟩
@[simp] theorem f184B:f184.body=f184C∧f184.res=[.tmp 2]∧f184.keep=false:=⟨rfl,rfl,rfl⟩
def f185l0:AC:= .r [.B 17 .lss 16 15] (.seq (.x 17 0) (.seq (.block 1 (.r [.X 18 1 14 16,.DF 19 18 1,.M 11 19] (.seq (.r [.M 20 11,.C 21 .lss 20 0,.M 22 21,.g 23 (.m 11) 22 false,.g 24 (.m 9) 22 false,.g 25 (.nilck (.t 24)) 22 false,.g 26 (.fadr 25 3) 22 false,.g 27 (.ldg 26 1 false) 22 false,.g 28 (.lenl (.t 27)) 22 false,.g 29 (.bin .geq (.t 23) (.t 28)) 22 false,.Q 30 22 29] (.i 30 (.v [.o 31 (.mkst zG []),.n (.stn 6 0 4 (.t 31) zT),.I 7 7]))) (.q [.M 32 9,.o 33 (.nilck (.t 32)),.o 34 (.fadr 33 3),.o 35 (.ldg 34 1 false),.M 36 11,.X 37 4 35 36,.M 9 37])))) (.q [.C 38 .add 16 1,.M 16 38])))
def f185r0:AC:= .r [.M 39 9,.L 40 5 0 4,.c 41 48 [.t 40],.o 42 (.nilck (.t 39)),.n (.st 42 4 (.t 41))] (.v [.o 43 (.ldg 8 4 true),.S 6 0 4 43,.I 7 0])
def f185C:AC:= .r [.b 3 0,.b 5 2,.T 6,.I 7 0] (.r [.L 12 3 0 4,.c 13 48 [.t 12],.o 8 (.galloc zT),.n (.st 8 4 (.t 13))] (.r [.M 9 8] (.seq (.r [.M 14 1,.N 15 14,.I 16 0] (.block 0 (.loop (f185l0)))) (f185r0))))
def f185:Qk:=⟨3,44,[.cell 6 4 true,.tmp 7],f185C,false⟩
@[simp] theorem f185B:f185.body=f185C∧f185.res=[.cell 6 4 true,.tmp 7]∧f185.keep=false:=⟨rfl,rfl,rfl⟩
def f186C:AC:= .r [.b 1 0,.Z 2 5,.I 3 0] (.seq (.r [.L 7 1 0 4,.c 8 6 [.t 7],.M 4 8] (.r [.M 9 4,.C 10 .neq 9 0] (.i 10 (.v [.M 11 4,.Z 2 5,.M 3 11])))) (.r [.L 13 1 0 4,.c 14 187 [.c (.gs 0 0 0 0),.t 13,.i 1],.M 12 14,.E 15 12 0,.E 16 12 1,.M 5 15,.M 6 16] (.seq (.block 0 (.r [.M 18 6,.o 19 (.un .not (.t 18)),.M 17 19] (.cond (.t 17) (.v [.Z 2 5,.I 3 6]) (.r [.M 21 5,.N 22 21,.C 23 .gtr 22 200,.M 20 23] (.i 20 (.v [.Z 2 5,.I 3 3])))))) (.v [.M 24 5,.o 2 (.frz 24 5),.I 3 0]))))
def f186:Qk:=⟨1,25,[.tmp 2,.tmp 3],f186C,false⟩
@[simp] theorem f186B:f186.body=f186C∧f186.res=[.tmp 2,.tmp 3]∧f186.keep=false:=⟨rfl,rfl,rfl⟩
def f187l0:AC:= .r [.B 55 .lss 54 53] (.seq (.x 55 1) (.seq (.block 2 (.r [.X 56 4 52 54,.DT 57 56 4,.T 11,.S 11 0 4 57] (.r [.M 59 0,.L 60 11 0 4,.M 61 2,.c 62 187 [.t 59,.t 60,.t 61],.M 58 62,.E 63 58 0,.E 64 58 1,.o 0 (.mvs 63),.M 9 64] (.r [.M 65 9,.o 66 (.un .not (.t 65))] (.i 66 (.v [.o 6 (.mov (.c (.gs 0 0 0 0))),.f 7 false])))))) (.q [.C 67 .add 54 1,.M 54 67])))
def f187r0:AC:= .v [.M 68 0,.M 6 68,.f 7 true]
def f187C:AC:= .r [.b 4 1,.o 6 (.mov (.c (.gs 0 0 0 0))),.f 7 false] (.seq (.r [.L 12 4 0 4,.c 13 188 [.t 12],.o 14 (.un .not (.t 13))] (.i 14 (.v [.M 15 0,.L 16 4 0 4,.M 17 2,.o 18 (.mkst [.int .i64 0,.str [],.int .i64 0,.sl true 4 [],.int .i64 0] [(0,4,.t 16),(4,1,.t 17)]),.c 19 189 [.t 15,.t 18],.M 6 19,.f 7 true]))) (.r [.F 20 4 3,.l 21 4 3 1,.N 22 21,.M 8 22] (.seq (.block 0 (.seq (.r [.F 24 4 1,.l 25 4 1 1,.o 26 (.bin .eql (.t 25) (.c (.str [111,110,101]))),.M 27 26,.g 28 (.m 8) 27 true,.g 29 (.bin .neq (.t 28) (.i 0)) 27 true,.P 30 27 29,.M 23 30] (.cond (.t 23) (.skip) (.r [.F 31 4 1,.l 32 4 1 1,.o 33 (.bin .eql (.t 32) (.c (.str [105,110,118]))),.M 34 33,.g 35 (.m 8) 34 true,.g 36 (.bin .neq (.t 35) (.i 1)) 34 true,.P 37 34 36,.M 23 37] (.cond (.t 23) (.skip) (.q [.F 38 4 1,.l 39 4 1 1,.o 40 (.bin .eql (.t 39) (.c (.str [109,117,108]))),.M 41 40,.g 42 (.m 8) 41 true,.g 43 (.bin .lss (.t 42) (.i 2)) 41 true,.P 44 41 43,.M 23 44]))))) (.cond (.t 23) (.v [.o 6 (.mov (.c (.gs 0 0 0 0))),.f 7 false]) (.r [.F 46 4 1,.l 47 4 1 1,.o 48 (.bin .eql (.t 47) (.c (.str [105,110,118]))),.M 45 48] (.i 45 (.q [.M 49 2,.o 50 (.un .neg (.t 49)),.M 2 50])))))) (.r [.f 9 true] (.seq (.r [.F 51 4 3,.l 52 4 3 1,.N 53 52,.I 54 0] (.block 1 (.loop (f187l0)))) (f187r0))))))
def f187:Qk:=⟨3,69,[.tmp 6,.tmp 7],f187C,true⟩
@[simp] theorem f187B:f187.body=f187C∧f187.res=[.tmp 6,.tmp 7]∧f187.keep=true:=⟨rfl,rfl,rfl⟩
def f188C:AC:= .r [.b 1 0,.f 2 false] (.v [.F 3 1 0,.l 4 1 0 1,.C 5 .eql 4 3,.M 6 5,.g 7 (.fad 1 1) 6 true,.g 8 (.ldf 1 1 1 false) 6 true,.g 9 (.bin .eql (.t 8) (.c (.str [109,117,108]))) 6 true,.g 10 (.m 9) 6 true,.g 11 (.fad 1 1) 10 false,.g 12 (.ldf 1 1 1 false) 10 false,.g 13 (.bin .eql (.t 12) (.c (.str [105,110,118]))) 10 false,.g 14 (.pick (.t 10) (.c (.bool true)) (.t 13)) 6 true,.g 15 (.m 14) 6 true,.g 16 (.fad 1 1) 15 false,.g 17 (.ldf 1 1 1 false) 15 false,.g 18 (.bin .eql (.t 17) (.c (.str [111,110,101]))) 15 false,.g 19 (.pick (.t 15) (.c (.bool true)) (.t 18)) 6 true,.P 20 6 19,.M 2 20])
def f188:Qk:=⟨1,21,[.tmp 2],f188C,false⟩
@[simp] theorem f188B:f188.body=f188C∧f188.res=[.tmp 2]∧f188.keep=false:=⟨rfl,rfl,rfl⟩
def f189C:AC:= .r [.b 3 1,.o 4 (.mov (.c (.gs 0 0 0 0)))] (.r [.M 8 0,.F 9 3 0,.L 10 3 0 4,.c 11 191 [.t 8,.t 10,.c (.fn 190 [])],.M 7 11,.E 12 7 0,.E 13 7 1,.M 5 12,.M 6 13] (.seq (.r [.M 14 6,.o 15 (.un .not (.t 14))] (.i 15 (.seq (.z [.M 16 0,.M 17 5,.F 18 3 0,.L 19 3 0 4,.c 20 192 [.t 19],.F 21 3 4,.l 22 3 4 1,.o 23 (.mkst [.int .i64 0,.str [],.int .i64 0,.sl true 4 [],.int .i64 0] [(0,4,.t 20),(4,1,.t 22)]),.o 24 (.mksl 5 [.t 23]),.c 25 194 [.t 16,.t 17,.t 24],.M 4 25]) (.ret)))) (.seq (.z [.M 26 0,.M 27 5,.X 28 5 26 27,.o 29 (.fadr 28 4),.o 30 (.ldg 29 1 false),.F 31 3 4,.l 32 3 4 1,.B 33 .add 30 32,.X 34 5 26 27,.o 35 (.fadr 34 4),.n (.st 35 1 (.t 33))]) (.seq (.r [.M 36 0,.M 37 5,.X 38 5 36 37,.o 39 (.fadr 38 4),.o 40 (.ldg 39 1 false),.C 41 .eql 40 0] (.i 41 (.v [.M 42 0,.M 43 5,.M 44 5,.C 45 .add 44 1,.c 46 195 [.t 42,.t 43,.t 45],.M 4 46]))) (.v [.M 47 0,.M 4 47])))))
def f189:Qk:=⟨2,48,[.tmp 4],f189C,true⟩
@[simp] theorem f189B:f189.body=f189C∧f189.res=[.tmp 4]∧f189.keep=true:=⟨rfl,rfl,rfl⟩
def f190C:AC:= .r [.b 2 0,.b 3 1,.I 4 0] (.v [.F 5 2 0,.L 6 2 0 4,.L 7 3 0 4,.c 8 30 [.t 6,.t 7],.M 4 8])
def f190:Qk:=⟨2,9,[.tmp 4],f190C,false⟩
def f191l0:AC:= .seq (.r [.M 15 9,.M 16 10,.B 17 .lss 15 16] (.x 17 0)) (.block 1 (.r [.M 18 9,.M 19 10,.B 20 .add 18 19,.o 21 (.conv .u64 (.t 20)),.o 22 (.bin .shr (.t 21) (.c (.int .u64 1))),.o 23 (.conv .i64 (.t 22)),.M 11 23] (.seq (.z [.M 24 2,.M 25 0,.M 26 11,.X 27 5 25 26,.o 28 (.ldg 27 5 true),.L 29 4 0 4,.o 30 (.callv (.t 24) [.t 28,.t 29]),.C 31 .lss 30 0]) (.cond (.t 31) (.q [.M 32 11,.C 33 .add 32 1,.M 9 33]) (.q [.M 34 11,.M 10 34])))))
def f191r0:AC:= .seq (.z [.M 35 9,.M 36 9,.M 37 8,.B 38 .lss 36 37,.M 39 38,.g 40 (.m 2) 39 true,.g 41 (.m 0) 39 true,.g 42 (.m 9) 39 true,.g 43 (.idxa 5 (.t 41) (.t 42)) 39 true,.g 44 (.ldg 43 5 true) 39 true,.g 45 (.ldf 4 0 4 true) 39 true,.g 46 (.callv (.t 40) [.t 44,.t 45]) 39 true,.g 47 (.bin .eql (.t 46) (.i 0)) 39 true,.P 48 39 47,.M 6 35,.M 7 48]) (.ret)
def f191C:AC:= .r [.b 4 1,.I 6 0,.f 7 false] (.r [.M 12 0,.N 13 12,.M 8 13] (.r [.M 14 8,.I 9 0,.M 10 14] (.seq (.block 0 (.loop (f191l0))) (f191r0))))
def f191:Qk:=⟨3,49,[.tmp 6,.tmp 7],f191C,false⟩
@[simp] theorem f191B:f191.body=f191C∧f191.res=[.tmp 6,.tmp 7]∧f191.keep=false:=⟨rfl,rfl,rfl⟩
def f192l0:AC:= .r [.B 13 .lss 12 11] (.seq (.x 13 0) (.seq (.block 1 (.r [.M 14 12,.X 15 4 10 12,.o 16 (.ldg 15 4 true),.T 4,.M 3 14,.S 4 0 4 16] (.z [.F 17 1 3,.l 18 1 3 1,.M 19 3,.L 20 4 0 4,.c 21 192 [.t 20],.X 22 4 18 19,.n (.st 22 4 (.t 21))]))) (.q [.C 23 .add 12 1,.M 12 23])))
def f192r0:AC:= .v [.o 24 (.ldfz 1 0 4 3 4),.S 2 0 4 24]
def f192C:AC:= .r [.b 1 0,.T 2] (.r [.F 5 1 3,.l 6 1 3 1,.c 7 193 [.t 6],.F 8 1 3,.S 1 3 1 7] (.seq (.r [.F 9 1 3,.l 10 1 3 1,.N 11 10,.I 12 0] (.block 0 (.loop (f192l0)))) (f192r0)))
def f192:Qk:=⟨1,25,[.cell 2 4 true],f192C,false⟩
@[simp] theorem f192B:f192.body=f192C∧f192.res=[.cell 2 4 true]∧f192.keep=false:=⟨rfl,rfl,rfl⟩
def f195C:AC:= .r [.Z 6 5] (.r [.M 8 0,.M 9 1,.M 10 2,.M 11 0,.N 12 11,.o 13 (.slcc 5 (.t 8) (some (.t 9)) (.t 10) (.t 12))] (.seq (.r [.M 14 1,.M 15 2,.B 16 .eql 14 15] (.i 16 (.v [.M 17 0,.M 6 17]))) (.r [.M 18 0,.N 19 18,.M 7 19] (.seq (.z [.M 20 0,.M 21 1,.o 22 (.slcl 5 (.t 20) none (some (.t 21))),.M 23 0,.M 24 2,.o 25 (.slcl 5 (.t 23) (some (.t 24)) none),.o 26 (.appM 64 5 (.t 22) (.t 25)),.M 0 26]) (.r [.M 27 0,.M 28 0,.N 29 28,.M 30 7,.o 31 (.slcx 5 (.t 27) (some (.t 29)) (some (.t 30))),.n (.clr 5 (.t 31))] (.v [.M 32 0,.M 6 32]))))))
def f195:Qk:=⟨3,33,[.tmp 6],f195C,true⟩
@[simp] theorem f195B:f195.body=f195C∧f195.res=[.tmp 6]∧f195.keep=true:=⟨rfl,rfl,rfl⟩
def f196l0:AC:= .r [.B 36 .lss 35 34] (.seq (.x 36 2) (.seq (.block 3 (.q [.o 37 (.mvs 5),.F 38 8 0,.L 39 8 0 4,.c 40 192 [.t 39],.o 41 (.mksl 4 [.t 40]),.A 42 56 4 37 41,.o 5 (.mvs 42)])) (.q [.C 43 .add 35 1,.M 35 43])))
def f196l1:AC:= .r [.B 48 .lss 47 46] (.seq (.x 48 4) (.seq (.block 5 (.q [.o 49 (.mvs 6),.F 50 8 0,.L 51 8 0 4,.c 52 192 [.t 51],.o 53 (.mksl 4 [.t 52]),.c 54 198 [.c (.str [105,110,118]),.t 53],.o 55 (.mksl 4 [.t 54]),.A 56 56 4 49 55,.o 6 (.mvs 56)])) (.q [.C 57 .add 47 1,.M 47 57])))
def f196r0:AC:= .r [.F 44 8 4,.l 45 8 4 1,.o 46 (.un .neg (.t 45)),.I 47 0] (.block 4 (.loop (f196l1)))
def f196r1:AC:= .q [.C 58 .add 20 1,.M 20 58]
def f196l2:AC:= .r [.B 21 .lss 20 19] (.seq (.x 21 0) (.seq (.block 1 (.r [.X 22 5 18 20,.DT 23 22 5,.o 8 (.alloc [.int .i64 0,.str [],.int .i64 0,.sl true 4 [],.int .i64 0]),.S 8 0 5 23] (.seq (.r [.F 24 8 4,.l 25 8 4 1,.C 26 .gtr 25 8,.M 27 26,.g 28 (.fad 8 4) 27 false,.g 29 (.ldf 8 4 1 false) 27 false,.g 30 (.bin .lss (.t 29) (.i (-8))) 27 false,.Q 31 27 30] (.i 31 (.v [.o 32 (.mkst zG []),.n (.stn 2 0 4 (.t 32) zT),.I 3 3]))) (.seq (.r [.F 33 8 4,.l 34 8 4 1,.I 35 0] (.block 2 (.loop (f196l0)))) (f196r0))))) (f196r1)))
def f196r2:AC:= .r [.M 59 5,.M 60 6,.o 61 (.mksl 1 [.t 59,.t 60]),.c 62 180 [.t 61],.o 9 (.mvs 62)] (.seq (.r [.M 63 9,.N 64 63,.C 65 .gtr 64 8] (.i 65 (.v [.o 66 (.mkst zG []),.n (.stn 2 0 4 (.t 66) zT),.I 3 3]))) (.r [.M 67 9,.c 68 198 [.c (.str [109,117,108]),.t 67],.T 10,.S 10 0 4 68] (.seq (.r [.M 69 9,.N 70 69] (.block 6 (.r [.C 72 .eql 70 0,.M 71 72] (.cond (.t 71) (.q [.c 73 198 [.c (.str [111,110,101]),.c (.sl true 4 [])],.S 10 0 4 73]) (.r [.C 75 .eql 70 1,.M 74 75] (.i 74 (.q [.M 76 9,.o 77 (.idxa 4 (.t 76) (.i 0)),.DT 78 77 4,.S 10 0 4 78]))))))) (.seq (.r [.L 79 10 0 4,.c 80 6 [.t 79],.M 11 80] (.r [.M 81 11,.C 82 .neq 81 0] (.i 82 (.v [.o 83 (.mkst zG []),.M 84 11,.n (.stn 2 0 4 (.t 83) zT),.M 3 84])))) (.v [.L 85 10 0 4,.S 2 0 4 85,.I 3 0])))))
def f196C:AC:= .r [.T 2,.I 3 0] (.seq (.r [.M 12 0,.c 13 197 [.t 12],.M 4 13] (.r [.M 14 4,.C 15 .neq 14 0] (.i 15 (.v [.o 16 (.mkst zG []),.M 17 4,.n (.stn 2 0 4 (.t 16) zT),.M 3 17])))) (.r [.Z 5 4,.Z 6 4] (.seq (.r [.M 18 0,.N 19 18,.I 20 0] (.block 0 (.loop (f196l2)))) (f196r2))))
def f196:Qk:=⟨1,86,[.cell 2 4 true,.tmp 3],f196C,false⟩
@[simp] theorem f196B:f196.body=f196C∧f196.res=[.cell 2 4 true,.tmp 3]∧f196.keep=false:=⟨rfl,rfl,rfl⟩
def f197l0:AC:= .r [.B 12 .lss 11 10] (.seq (.x 12 0) (.seq (.block 1 (.r [.M 13 11,.X 14 5 9 11,.DT 15 14 5,.o 4 (.alloc [.int .i64 0,.str [],.int .i64 0,.sl true 4 [],.int .i64 0]),.M 3 13,.S 4 0 5 15] (.seq (.r [.F 16 4 0,.L 17 4 0 4,.c 18 6 [.t 17],.M 5 18] (.r [.M 19 5,.C 20 .neq 19 0] (.i 20 (.v [.M 21 5,.M 2 21])))) (.block 2 (.r [.F 23 4 0,.L 24 4 0 4,.c 25 188 [.t 24],.M 22 25] (.cond (.t 22) (.v [.I 2 1]) (.r [.F 27 4 4,.l 28 4 4 1,.C 29 .eql 28 0,.M 30 29,.g 31 (.fad 4 4) 30 false,.g 32 (.ldf 4 4 1 false) 30 false,.g 33 (.bin .lss (.t 32) (.i (-1000))) 30 false,.Q 34 30 33,.M 35 34,.g 36 (.fad 4 4) 35 false,.g 37 (.ldf 4 4 1 false) 35 false,.g 38 (.bin .gtr (.t 37) (.i 1000)) 35 false,.Q 39 35 38,.M 26 39] (.cond (.t 26) (.v [.I 2 7]) (.seq (.z [.M 41 3,.C 42 .gtr 41 0,.M 43 42,.g 44 (.m 0) 43 true,.g 45 (.m 3) 43 true,.g 46 (.bin .sub (.t 45) (.i 1)) 43 true,.g 47 (.idxa 5 (.t 44) (.t 46)) 43 true,.g 48 (.fadr 47 0) 43 true,.g 49 (.ld 48 4 true) 43 true,.g 50 (.fad 4 0) 43 true,.g 51 (.ldf 4 0 4 true) 43 true,.g 52 (.call 30 [.t 49,.t 51]) 43 true,.g 53 (.bin .geq (.t 52) (.i 0)) 43 true,.P 54 43 53,.M 40 54]) (.i 40 (.v [.I 2 5]))))))))))) (.q [.C 55 .add 11 1,.M 11 55])))
def f197r0:AC:= .v [.I 2 0]
def f197C:AC:= .r [.I 2 0] (.seq (.r [.M 6 0,.N 7 6,.C 8 .gtr 7 200] (.i 8 (.v [.I 2 3]))) (.seq (.r [.M 9 0,.N 10 9,.I 11 0] (.block 0 (.loop (f197l0)))) (f197r0)))
def f197:Qk:=⟨1,56,[.tmp 2],f197C,false⟩
@[simp] theorem f197B:f197.body=f197C∧f197.res=[.tmp 2]∧f197.keep=false:=⟨rfl,rfl,rfl⟩
def f198C:AC:= .r [.T 4] (.v [.M 5 0,.M 6 1,.o 7 (.mkst zT [(0,1,.i 3),(1,1,.t 5),(3,1,.t 6)]),.S 4 0 4 7])
def f198:Qk:=⟨2,8,[.cell 4 4 true],f198C,false⟩
def f199C:AC:= .r [.b 2 0,.b 3 1,.T 4,.I 5 0] (.r [.L 11 3 0 4,.c 12 186 [.t 11],.M 10 12,.E 13 10 0,.E 14 10 1,.o 6 (.mvs 13),.M 7 14] (.seq (.r [.M 15 7,.C 16 .neq 15 0] (.i 16 (.v [.o 17 (.mkst zG []),.M 18 7,.n (.stn 4 0 4 (.t 17) zT),.M 5 18]))) (.seq (.r [.L 19 2 0 4,.c 20 71 [.t 19,.c (.str [101,120,112])]] (.i 20 (.r [.F 22 2 3,.l 23 2 3 1,.o 24 (.idxa 4 (.t 23) (.i 1)),.DT 25 24 4,.c 26 186 [.t 25],.M 21 26,.E 27 21 0,.E 28 21 1,.o 8 (.mvs 27),.M 9 28] (.seq (.r [.M 29 9,.C 30 .neq 29 0] (.i 30 (.v [.o 31 (.mkst zG []),.M 32 9,.n (.stn 4 0 4 (.t 31) zT),.M 5 32]))) (.seq (.r [.M 34 8,.M 35 6,.c 36 200 [.t 34,.t 35],.M 33 36,.E 37 33 0,.E 38 33 1,.o 6 (.mvs 37),.M 9 38] (.r [.M 39 9,.C 40 .neq 39 0] (.i 40 (.v [.o 41 (.mkst zG []),.M 42 9,.n (.stn 4 0 4 (.t 41) zT),.M 5 42])))) (.q [.F 43 2 3,.l 44 2 3 1,.o 45 (.idxa 4 (.t 44) (.i 0)),.DT 46 45 4,.S 2 0 4 46])))))) (.seq (.r [.M 47 6,.N 48 47,.C 49 .eql 48 0] (.i 49 (.v [.L 50 2 0 4,.S 4 0 4 50,.I 5 0]))) (.r [.M 52 6,.c 53 196 [.t 52],.M 51 53,.E 54 51 0,.E 55 51 1,.S 3 0 4 54,.M 7 55] (.seq (.r [.M 56 7,.C 57 .neq 56 0] (.i 57 (.v [.o 58 (.mkst zG []),.M 59 7,.n (.stn 4 0 4 (.t 58) zT),.M 5 59]))) (.v [.L 60 2 0 4,.L 61 3 0 4,.o 62 (.mksl 4 [.t 60,.t 61]),.c 63 49 [.c (.str [101,120,112]),.t 62],.S 4 0 4 63,.I 5 0])))))))
def f199:Qk:=⟨2,64,[.cell 4 4 true,.tmp 5],f199C,false⟩
@[simp] theorem f199B:f199.body=f199C∧f199.res=[.cell 4 4 true,.tmp 5]∧f199.keep=false:=⟨rfl,rfl,rfl⟩
def f200l0:AC:= .r [.B 26 .lss 25 24] (.seq (.x 26 0) (.seq (.block 1 (.r [.X 27 5 23 25,.DT 28 27 5,.o 10 (.alloc [.int .i64 0,.str [],.int .i64 0,.sl true 4 [],.int .i64 0]),.S 10 0 5 28] (.q [.M 29 8,.L 30 10 0 5,.c 31 189 [.t 29,.t 30],.M 8 31]))) (.q [.C 32 .add 25 1,.M 25 32])))
def f200r0:AC:= .v [.M 33 8,.c 34 202 [.t 33],.E 35 34 0,.E 36 34 1,.o 4 (.mvs 35),.M 5 36]
def f200C:AC:= .r [.Z 4 5,.I 5 0] (.seq (.r [.M 11 0,.c 12 197 [.t 11],.M 6 12] (.r [.M 13 6,.C 14 .neq 13 0] (.i 14 (.v [.M 15 6,.Z 4 5,.M 5 15])))) (.seq (.r [.M 16 1,.c 17 197 [.t 16],.M 7 17] (.r [.M 18 7,.C 19 .neq 18 0] (.i 19 (.v [.M 20 7,.Z 4 5,.M 5 20])))) (.r [.M 21 0,.c 22 201 [.t 21],.M 8 22] (.seq (.r [.M 23 1,.N 24 23,.I 25 0] (.block 0 (.loop (f200l0)))) (f200r0)))))
def f200:Qk:=⟨2,37,[.tmp 4,.tmp 5],f200C,false⟩
@[simp] theorem f200B:f200.body=f200C∧f200.res=[.tmp 4,.tmp 5]∧f200.keep=false:=⟨rfl,rfl,rfl⟩
def f201l0:AC:= .r [.B 9 .lss 8 7] (.seq (.x 9 0) (.seq (.block 1 (.r [.X 10 5 6 8,.DT 11 10 5,.o 5 (.alloc [.int .i64 0,.str [],.int .i64 0,.sl true 4 [],.int .i64 0]),.S 5 0 5 11] (.z [.M 12 3,.F 13 5 0,.L 14 5 0 4,.c 15 192 [.t 14],.F 16 5 4,.l 17 5 4 1,.o 18 (.mkst [.int .i64 0,.str [],.int .i64 0,.sl true 4 [],.int .i64 0] [(0,4,.t 15),(4,1,.t 17)]),.o 19 (.mksl 5 [.t 18]),.o 20 (.appM 64 5 (.t 12) (.t 19)),.M 3 20]))) (.q [.C 21 .add 8 1,.M 8 21])))
def f201r0:AC:= .v [.M 22 3,.M 2 22]
def f201C:AC:= .r [.o 2 (.mov (.c (.gs 0 0 0 0)))] (.r [.o 3 (.mov (.c (.gs 0 0 0 0)))] (.seq (.r [.M 6 0,.N 7 6,.I 8 0] (.block 0 (.loop (f201l0)))) (f201r0)))
def f201:Qk:=⟨1,23,[.tmp 2],f201C,true⟩
@[simp] theorem f201B:f201.body=f201C∧f201.res=[.tmp 2]∧f201.keep=true:=⟨rfl,rfl,rfl⟩
def f202C:AC:= .r [.Z 2 5,.I 3 0] (.seq (.r [.M 4 0,.c 5 204 [.t 4,.c (.fn 203 [])]] (.i 5 (.v [.Z 2 5,.I 3 7]))) (.seq (.r [.M 6 0,.N 7 6,.C 8 .gtr 7 200] (.i 8 (.v [.Z 2 5,.I 3 3]))) (.v [.M 9 0,.o 2 (.frz 9 5),.I 3 0])))
def f202:Qk:=⟨1,10,[.tmp 2,.tmp 3],f202C,false⟩
@[simp] theorem f202B:f202.body=f202C∧f202.res=[.tmp 2,.tmp 3]∧f202.keep=false:=⟨rfl,rfl,rfl⟩
def f203C:AC:= .r [.b 1 0,.f 2 false] (.v [.F 3 1 4,.l 4 1 4 1,.C 5 .lss 4 (-1000),.M 6 5,.g 7 (.fad 1 4) 6 false,.g 8 (.ldf 1 4 1 false) 6 false,.g 9 (.bin .gtr (.t 8) (.i 1000)) 6 false,.Q 10 6 9,.M 2 10])
def f203:Qk:=⟨1,11,[.tmp 2],f203C,false⟩
@[simp] theorem f203B:f203.body=f203C∧f203.res=[.tmp 2]∧f203.keep=false:=⟨rfl,rfl,rfl⟩
def f204C:AC:= .r [.f 4 false] (.v [.M 5 0,.M 6 1,.c 7 205 [.t 5,.t 6],.C 8 .geq 7 0,.M 4 8])
def f204:Qk:=⟨2,9,[.tmp 4],f204C,false⟩
@[simp] theorem f204B:f204.body=f204C∧f204.res=[.tmp 4]∧f204.keep=false:=⟨rfl,rfl,rfl⟩
def f205l0:AC:= .r [.B 9 .lss 8 7] (.seq (.x 9 0) (.seq (.block 1 (.r [.M 10 8,.M 5 10] (.r [.M 11 1,.M 12 0,.M 13 5,.X 14 5 12 13,.o 15 (.ldg 14 5 true),.o 16 (.callv (.t 11) [.t 15])] (.i 16 (.v [.M 17 5,.M 4 17]))))) (.q [.C 18 .add 8 1,.M 8 18])))
def f205r0:AC:= .v [.I 4 (-1)]
def f205C:AC:= .r [.I 4 0] (.seq (.r [.M 6 0,.N 7 6,.I 8 0] (.block 0 (.loop (f205l0)))) (f205r0))
def f205:Qk:=⟨2,19,[.tmp 4],f205C,false⟩
@[simp] theorem f205B:f205.body=f205C∧f205.res=[.tmp 4]∧f205.keep=false:=⟨rfl,rfl,rfl⟩
def f206C:AC:= .r [.f 2 false] (.v [.M 3 0,.c 4 43 [.t 3],.o 5 (.fld 3 1 false (.t 4)),.C 6 .neq 5 3,.M 2 6])
def f206:Qk:=⟨1,7,[.tmp 2],f206C,false⟩
@[simp] theorem f206B:f206.body=f206C∧f206.res=[.tmp 2]∧f206.keep=false:=⟨rfl,rfl,rfl⟩
def f207l0:AC:= .r [.B 21 .lss 20 19] (.seq (.x 21 0) (.seq (.block 1 (.r [.X 22 4 18 20,.DT 23 22 4,.T 6,.S 6 0 4 23] (.r [.L 24 6 0 4,.M 25 1,.c 26 207 [.t 24,.t 25],.o 27 (.un .not (.t 26))] (.i 27 (.v [.f 4 false]))))) (.q [.C 28 .add 20 1,.M 20 28])))
def f207r0:AC:= .v [.f 4 true]
def f207C:AC:= .r [.b 2 0,.f 4 false] (.seq (.r [.F 7 2 0,.l 8 2 0 1,.C 9 .eql 8 3,.M 10 9,.g 11 (.m 1) 10 true,.g 12 (.fad 2 1) 10 true,.g 13 (.ldf 2 1 1 false) 10 true,.g 14 (.callv (.t 11) [.t 13]) 10 true,.g 15 (.un .not (.t 14)) 10 true,.P 16 10 15] (.i 16 (.v [.f 4 false]))) (.seq (.r [.F 17 2 3,.l 18 2 3 1,.N 19 18,.I 20 0] (.block 0 (.loop (f207l0)))) (f207r0)))
def f207:Qk:=⟨2,29,[.tmp 4],f207C,false⟩
@[simp] theorem f207B:f207.body=f207C∧f207.res=[.tmp 4]∧f207.keep=false:=⟨rfl,rfl,rfl⟩
def f208C:AC:= .r [.b 1 0,.T 2] (.r [.L 6 1 0 4,.c 7 47 [.t 6,.c (.sl true 1 [])],.M 5 7,.E 8 5 0,.E 9 5 1,.T 3,.S 3 0 4 8,.M 4 9] (.v [.L 10 3 0 4,.S 2 0 4 10]))
def f208:Qk:=⟨1,11,[.cell 2 4 true],f208C,false⟩
@[simp] theorem f208B:f208.body=f208C∧f208.res=[.cell 2 4 true]∧f208.keep=false:=⟨rfl,rfl,rfl⟩
def f209l0:AC:= .r [.B 19 .lss 18 17] (.seq (.x 19 2) (.seq (.block 3 (.r [.X 20 4 16 18,.DT 21 20 4,.T 7,.S 7 0 4 21] (.r [.L 22 7 0 4,.c 23 159 [.t 22],.o 24 (.un .not (.t 23)),.M 25 24,.g 26 (.fad 1 0) 25 true,.g 27 (.ldf 1 0 1 false) 25 true,.g 28 (.ldf 7 0 4 true) 25 true,.g 29 (.call 211 [.t 27,.t 28]) 25 true,.g 30 (.un .not (.t 29)) 25 true,.P 31 25 30,.M 32 31,.g 33 (.m 3) 32 true,.g 34 (.ldf 7 0 4 true) 32 true,.g 35 (.call 216 [.t 33,.t 34]) 32 true,.g 36 (.un .not (.t 35)) 32 true,.P 37 32 36] (.i 37 (.q [.M 38 3,.L 39 7 0 4,.o 40 (.mksl 4 [.t 39]),.o 41 (.appM 56 4 (.t 38) (.t 40)),.M 3 41]))))) (.q [.C 42 .add 18 1,.M 18 42])))
def f209r0:AC:= .q [.C 43 .add 11 1,.M 11 43]
def f209l1:AC:= .r [.B 12 .lss 11 10] (.seq (.x 12 0) (.seq (.block 1 (.r [.X 13 4 9 11,.DT 14 13 4,.T 5,.S 5 0 4 14] (.r [.L 15 5 0 4,.c 16 210 [.t 15],.N 17 16,.I 18 0] (.block 2 (.loop (f209l0)))))) (f209r0)))
def f209r1:AC:= .r [.M 44 3,.c 45 170 [.t 44,.c (.fn 30 [])]] (.v [.M 46 3,.o 2 (.frz 46 4)])
def f209C:AC:= .r [.b 1 0,.Z 2 4] (.r [.o 3 (.mov (.c (.gs 0 0 0 0)))] (.seq (.r [.F 8 1 1,.l 9 1 1 1,.N 10 9,.I 11 0] (.block 0 (.loop (f209l1)))) (f209r1)))
def f209:Qk:=⟨1,47,[.tmp 2],f209C,false⟩
@[simp] theorem f209B:f209.body=f209C∧f209.res=[.tmp 2]∧f209.keep=false:=⟨rfl,rfl,rfl⟩
def f210C:AC:= .r [.b 1 0,.Z 2 4] (.v [.L 3 1 0 4,.c 4 166 [.t 3,.i 2],.o 2 (.mvs 4)])
def f210:Qk:=⟨1,5,[.tmp 2],f210C,false⟩
def f211C:AC:= .r [.o 3 (.gbox (.t 1)),.f 4 false] (.v [.M 5 0,.o 6 (.mkfn 212 [.t 3]),.c 7 214 [.t 5,.t 6],.M 4 7])
def f211:Qk:=⟨2,8,[.tmp 4],f211C,false⟩
@[simp] theorem f211B:f211.body=f211C∧f211.res=[.tmp 4]∧f211.keep=false:=⟨rfl,rfl,rfl⟩
def f212C:AC:= .r [.b 2 0,.f 3 false] (.v [.L 4 2 0 4,.o 5 (.ldg 1 4 true),.c 6 213 [.t 4,.t 5],.M 3 6])
def f212:Qk:=⟨2,7,[.tmp 3],f212C,false⟩
@[simp] theorem f212B:f212.body=f212C∧f212.res=[.tmp 3]∧f212.keep=false:=⟨rfl,rfl,rfl⟩
def f213C:AC:= .r [.b 2 0,.b 3 1,.f 4 false] (.v [.L 5 2 0 4,.L 6 3 0 4,.c 7 30 [.t 5,.t 6],.C 8 .eql 7 0,.M 4 8])
def f213:Qk:=⟨2,9,[.tmp 4],f213C,false⟩
@[simp] theorem f213B:f213.body=f213C∧f213.res=[.tmp 4]∧f213.keep=false:=⟨rfl,rfl,rfl⟩
def f214C:AC:= .r [.f 4 false] (.v [.M 5 0,.M 6 1,.c 7 215 [.t 5,.t 6],.C 8 .geq 7 0,.M 4 8])
def f214:Qk:=⟨2,9,[.tmp 4],f214C,false⟩
@[simp] theorem f214B:f214.body=f214C∧f214.res=[.tmp 4]∧f214.keep=false:=⟨rfl,rfl,rfl⟩
def f215l0:AC:= .r [.B 9 .lss 8 7] (.seq (.x 9 0) (.seq (.block 1 (.r [.M 10 8,.M 5 10] (.r [.M 11 1,.M 12 0,.M 13 5,.X 14 4 12 13,.DT 15 14 4,.o 16 (.callv (.t 11) [.t 15])] (.i 16 (.v [.M 17 5,.M 4 17]))))) (.q [.C 18 .add 8 1,.M 8 18])))
def f215r0:AC:= .v [.I 4 (-1)]
def f215C:AC:= .r [.I 4 0] (.seq (.r [.M 6 0,.N 7 6,.I 8 0] (.block 0 (.loop (f215l0)))) (f215r0))
def f215:Qk:=⟨2,19,[.tmp 4],f215C,false⟩
@[simp] theorem f215B:f215.body=f215C∧f215.res=[.tmp 4]∧f215.keep=false:=⟨rfl,rfl,rfl⟩
def f216C:AC:= .r [.o 3 (.gbox (.t 1)),.f 4 false] (.v [.M 5 0,.o 6 (.mkfn 212 [.t 3]),.c 7 217 [.t 5,.t 6],.M 4 7])
def f216:Qk:=⟨2,8,[.tmp 4],f216C,false⟩
@[simp] theorem f216B:f216.body=f216C∧f216.res=[.tmp 4]∧f216.keep=false:=⟨rfl,rfl,rfl⟩
def f217C:AC:= .r [.f 4 false] (.v [.M 5 0,.M 6 1,.c 7 218 [.t 5,.t 6],.C 8 .geq 7 0,.M 4 8])
def f217:Qk:=⟨2,9,[.tmp 4],f217C,false⟩
@[simp] theorem f217B:f217.body=f217C∧f217.res=[.tmp 4]∧f217.keep=false:=⟨rfl,rfl,rfl⟩
def f218l0:AC:= .r [.B 9 .lss 8 7] (.seq (.x 9 0) (.seq (.block 1 (.r [.M 10 8,.M 5 10] (.r [.M 11 1,.M 12 0,.M 13 5,.X 14 4 12 13,.o 15 (.ldg 14 4 true),.o 16 (.callv (.t 11) [.t 15])] (.i 16 (.v [.M 17 5,.M 4 17]))))) (.q [.C 18 .add 8 1,.M 8 18])))
def f218r0:AC:= .v [.I 4 (-1)]
def f218C:AC:= .r [.I 4 0] (.seq (.r [.M 6 0,.N 7 6,.I 8 0] (.block 0 (.loop (f218l0)))) (f218r0))
def f218:Qk:=⟨2,19,[.tmp 4],f218C,false⟩
@[simp] theorem f218B:f218.body=f218C∧f218.res=[.tmp 4]∧f218.keep=false:=⟨rfl,rfl,rfl⟩
def f219C:AC:= .r [.b 2 0,.b 3 1,.T 4,.I 5 0] (.seq (.r [.L 9 2 0 2,.L 10 3 0 4,.c 11 220 [.t 9,.t 10],.M 6 11] (.r [.M 12 6,.C 13 .neq 12 0] (.i 13 (.v [.o 14 (.mkst zG []),.M 15 6,.n (.stn 4 0 4 (.t 14) zT),.M 5 15])))) (.r [.L 17 2 0 2,.L 18 3 0 4,.c 19 225 [.t 17,.t 18],.c 20 174 [.t 19],.M 16 20,.E 21 16 0,.E 22 16 1,.T 7,.S 7 0 4 21,.M 8 22] (.seq (.r [.M 23 8,.C 24 .eql 23 0,.M 25 24,.g 26 (.ldf 7 0 4 true) 25 true,.g 27 (.call 226 [.t 26]) 25 true,.P 28 25 27] (.i 28 (.q [.I 8 11]))) (.seq (.r [.M 29 8,.C 30 .neq 29 0] (.i 30 (.v [.o 31 (.mkst zG []),.M 32 8,.n (.stn 4 0 4 (.t 31) zT),.M 5 32]))) (.v [.L 33 7 0 4,.S 4 0 4 33,.I 5 0])))))
def f219:Qk:=⟨2,34,[.cell 4 4 true,.tmp 5],f219C,false⟩
@[simp] theorem f219B:f219.body=f219C∧f219.res=[.cell 4 4 true,.tmp 5]∧f219.keep=false:=⟨rfl,rfl,rfl⟩
def f220C:AC:= .r [.b 2 0,.b 3 1,.I 4 0] (.seq (.r [.L 7 2 0 2,.c 8 158 [.t 7],.M 5 8] (.r [.M 9 5,.C 10 .neq 9 0] (.i 10 (.v [.M 11 5,.M 4 11])))) (.seq (.r [.L 12 3 0 4,.c 13 41 [.t 12],.M 6 13] (.r [.M 14 6,.C 15 .neq 14 0] (.i 15 (.v [.M 16 6,.M 4 16])))) (.seq (.z [.L 17 2 0 2,.L 18 2 0 2,.c 19 209 [.t 18],.L 20 3 0 4,.c 21 221 [.t 17,.t 19,.t 20],.M 4 21]) (.ret))))
def f220:Qk:=⟨2,22,[.tmp 4],f220C,false⟩
@[simp] theorem f220B:f220.body=f220C∧f220.res=[.tmp 4]∧f220.keep=false:=⟨rfl,rfl,rfl⟩
def f221l0:AC:= .r [.B 36 .lss 35 34] (.seq (.x 36 1) (.seq (.block 2 (.r [.X 37 4 33 35,.DT 38 37 4,.T 8,.S 8 0 4 38] (.r [.L 39 3 0 2,.M 40 1,.L 41 8 0 4,.c 42 221 [.t 39,.t 40,.t 41],.M 9 42] (.r [.M 43 9,.C 44 .neq 43 0] (.i 44 (.v [.M 45 9,.M 6 45])))))) (.q [.C 46 .add 35 1,.M 35 46])))
def f221r0:AC:= .v [.I 6 0]
def f221C:AC:= .r [.b 3 0,.b 5 2,.I 6 0] (.seq (.r [.F 10 5 0,.l 11 5 0 1] (.block 0 (.r [.C 16 .eql 11 1,.M 15 16] (.cond (.t 15) (.r [.L 17 3 0 2,.L 18 5 0 4,.c 19 222 [.t 17,.t 18],.C 20 .lss 19 0] (.i 20 (.v [.I 6 13]))) (.r [.C 22 .eql 11 2,.M 21 22] (.cond (.t 21) (.r [.L 23 5 0 4,.c 24 159 [.t 23],.o 25 (.un .not (.t 24)),.M 26 25,.g 27 (.m 1) 26 true,.g 28 (.ldf 5 0 4 true) 26 true,.g 29 (.call 211 [.t 27,.t 28]) 26 true,.g 30 (.un .not (.t 29)) 26 true,.P 31 26 30] (.i 31 (.v [.I 6 13]))) (.r [.F 12 5 1,.l 13 5 1 1,.c 14 224 [.t 13]] (.i 14 (.v [.I 6 10]))))))))) (.seq (.r [.F 32 5 3,.l 33 5 3 1,.N 34 33,.I 35 0] (.block 1 (.loop (f221l0)))) (f221r0)))
def f221:Qk:=⟨3,47,[.tmp 6],f221C,false⟩
@[simp] theorem f221B:f221.body=f221C∧f221.res=[.tmp 6]∧f221.keep=false:=⟨rfl,rfl,rfl⟩
def f222l0:AC:= .r [.B 10 .lss 9 8] (.seq (.x 10 0) (.seq (.block 1 (.r [.M 11 9,.M 5 11] (.seq (.z [.M 12 5,.c 13 223 [.t 12],.L 14 3 0 4,.c 15 213 [.t 13,.t 14]]) (.i 15 (.v [.M 16 5,.M 4 16]))))) (.q [.C 17 .add 9 1,.M 9 17])))
def f222r0:AC:= .v [.I 4 (-1)]
def f222C:AC:= .r [.b 2 0,.b 3 1,.I 4 0] (.seq (.r [.F 6 2 1,.l 7 2 1 1,.N 8 7,.I 9 0] (.block 0 (.loop (f222l0)))) (f222r0))
def f222:Qk:=⟨2,18,[.tmp 4],f222C,false⟩
@[simp] theorem f222B:f222.body=f222C∧f222.res=[.tmp 4]∧f222.keep=false:=⟨rfl,rfl,rfl⟩
def f223C:AC:= .r [.T 2] (.v [.M 3 0,.c 4 18 [.t 3],.o 5 (.bin .add (.c (.str [119])) (.t 4)),.o 6 (.mkst zG [(0,1,.i 1),(1,1,.t 5)]),.n (.stn 2 0 4 (.t 6) zT)])
def f223:Qk:=⟨1,7,[.cell 2 4 true],f223C,false⟩
def f224C:AC:= .r [.f 2 false] (.v [.M 3 0,.o 4 (.bin .eql (.t 3) (.c (.str [115,107]))),.M 5 4,.g 6 (.m 0) 5 false,.g 7 (.bin .eql (.t 6) (.c (.str [115,104,107]))) 5 false,.Q 8 5 7,.M 9 8,.g 10 (.m 0) 9 false,.g 11 (.bin .eql (.t 10) (.c (.str [110,101,119]))) 9 false,.Q 12 9 11,.M 2 12])
def f224:Qk:=⟨1,13,[.tmp 2],f224C,false⟩
@[simp] theorem f224B:f224.body=f224C∧f224.res=[.tmp 2]∧f224.keep=false:=⟨rfl,rfl,rfl⟩
def f225l0:AC:= .r [.B 30 .lss 29 28] (.seq (.x 30 0) (.seq (.block 1 (.r [.X 31 4 27 29,.DT 32 31 4,.T 7,.S 7 0 4 32] (.z [.F 33 5 3,.o 34 (.ldfm 5 3),.L 35 2 0 2,.L 36 7 0 4,.c 37 225 [.t 35,.t 36],.o 38 (.mksl 4 [.t 37]),.A 39 56 4 34 38,.F 40 5 3,.n (.stfm 5 3 39)]))) (.q [.C 41 .add 29 1,.M 29 41])))
def f225r0:AC:= .v [.L 42 5 0 4,.S 4 0 4 42]
def f225C:AC:= .r [.b 2 0,.b 3 1,.T 4] (.seq (.r [.F 8 3 0,.l 9 3 0 1,.C 10 .eql 9 1] (.i 10 (.seq (.z [.F 11 2 1,.l 12 2 1 1,.L 13 2 0 2,.L 14 3 0 4,.c 15 222 [.t 13,.t 14],.X 16 4 12 15,.DT 17 16 4,.c 18 208 [.t 17],.S 4 0 4 18]) (.ret)))) (.r [.F 19 3 0,.l 20 3 0 1,.F 21 3 1,.l 22 3 1 1,.F 23 3 2,.l 24 3 2 1,.o 25 (.mkst zG [(0,1,.t 20),(1,1,.t 22),(2,1,.t 24)]),.T 5,.n (.stn 5 0 4 (.t 25) zT)] (.seq (.r [.F 26 3 3,.l 27 3 3 1,.N 28 27,.I 29 0] (.block 0 (.loop (f225l0)))) (f225r0))))
def f225:Qk:=⟨2,43,[.cell 4 4 true],f225C,false⟩
@[simp] theorem f225B:f225.body=f225C∧f225.res=[.cell 4 4 true]∧f225.keep=false:=⟨rfl,rfl,rfl⟩
def f226C:AC:= .r [.b 1 0,.f 2 false] (.v [.F 3 1 0,.l 4 1 0 1,.C 5 .eql 4 3,.M 6 5,.g 7 (.fad 1 1) 6 true,.g 8 (.ldf 1 1 1 false) 6 true,.g 9 (.call 227 [.t 8]) 6 true,.P 10 6 9,.M 11 10,.g 12 (.fad 1 3) 11 false,.g 13 (.ldf 1 3 1 false) 11 false,.g 14 (.call 214 [.t 13,.c (.fn 226 [])]) 11 false,.Q 15 11 14,.M 2 15])
def f226:Qk:=⟨1,16,[.tmp 2],f226C,false⟩
@[simp] theorem f226B:f226.body=f226C∧f226.res=[.tmp 2]∧f226.keep=false:=⟨rfl,rfl,rfl⟩
def f227C:AC:= .r [.f 2 false] (.seq (.r [.M 3 0] (.block 0 (.seq (.r [.o 5 (.bin .eql (.t 3) (.c (.str [102,115,116]))),.M 4 5] (.cond (.t 4) (.skip) (.r [.o 6 (.bin .eql (.t 3) (.c (.str [115,110,100]))),.M 4 6] (.cond (.t 4) (.skip) (.r [.o 7 (.bin .eql (.t 3) (.c (.str [100,101,99]))),.M 4 7] (.cond (.t 4) (.skip) (.r [.o 8 (.bin .eql (.t 3) (.c (.str [97,100,101,99]))),.M 4 8] (.cond (.t 4) (.skip) (.r [.o 9 (.bin .eql (.t 3) (.c (.str [111,112,101,110]))),.M 4 9] (.cond (.t 4) (.skip) (.q [.o 10 (.bin .eql (.t 3) (.c (.str [114,101,97,100]))),.M 4 10]))))))))))) (.i 4 (.v [.f 2 true]))))) (.v [.f 2 false]))
def f227:Qk:=⟨1,11,[.tmp 2],f227C,false⟩
@[simp] theorem f227B:f227.body=f227C∧f227.res=[.tmp 2]∧f227.keep=false:=⟨rfl,rfl,rfl⟩
def f230l0:AC:= .seq (.r [.M 17 3,.F 18 1 0,.l 19 1 0 1,.N 20 19,.B 21 .lss 17 20] (.x 21 0)) (.seq (.block 1 (.seq (.r [.F 24 1 0,.l 25 1 0 1,.M 26 3,.X 27 4 25 26,.DT 28 27 4,.c 29 54 [.t 28],.M 4 29] (.r [.M 30 4,.C 31 .neq 30 0] (.i 31 (.v [.M 32 4,.M 2 32])))) (.seq (.r [.F 33 1 0,.l 34 1 0 1,.M 35 3,.X 36 4 34 35,.o 37 (.fadr 36 0),.DF 38 37 1,.C 39 .neq 38 2,.M 40 39,.g 41 (.fad 1 0) 40 false,.g 42 (.ldf 1 0 1 false) 40 false,.g 43 (.m 3) 40 false,.g 44 (.idxa 4 (.t 42) (.t 43)) 40 false,.g 45 (.ld 44 4 true) 40 false,.g 46 (.call 231 [.t 45]) 40 false,.Q 47 40 46] (.i 47 (.v [.I 2 1]))) (.seq (.z [.M 48 3,.C 49 .gtr 48 0,.M 50 49,.g 51 (.fad 1 0) 50 true,.g 52 (.ldf 1 0 1 false) 50 true,.g 53 (.m 3) 50 true,.g 54 (.bin .sub (.t 53) (.i 1)) 50 true,.g 55 (.idxa 4 (.t 52) (.t 54)) 50 true,.g 56 (.ld 55 4 true) 50 true,.g 57 (.fad 1 0) 50 true,.g 58 (.ldf 1 0 1 false) 50 true,.g 59 (.m 3) 50 true,.g 60 (.idxa 4 (.t 58) (.t 59)) 50 true,.g 61 (.ld 60 4 true) 50 true,.g 62 (.call 90 [.t 56,.t 61]) 50 true,.g 63 (.bin .geq (.t 62) (.i 0)) 50 true,.P 64 50 63]) (.i 64 (.v [.I 2 5])))))) (.q [.M 22 3,.C 23 .add 22 1,.M 3 23]))
def f230l1:AC:= .seq (.r [.M 65 5,.F 66 1 1,.l 67 1 1 1,.N 68 67,.B 69 .lss 65 68] (.x 69 2)) (.seq (.block 3 (.r [.F 72 1 1,.l 73 1 1 1,.M 74 5,.X 75 4 73 74,.DT 76 75 4,.c 77 233 [.t 76],.M 6 77] (.r [.M 78 6,.C 79 .neq 78 0] (.i 79 (.v [.M 80 6,.M 2 80]))))) (.q [.M 70 5,.C 71 .add 70 1,.M 5 71]))
def f230r0:AC:= .v [.I 2 0]
def f230r1:AC:= .seq (.r [.I 5 0] (.block 2 (.loop (f230l1)))) (f230r0)
def f230C:AC:= .r [.b 1 0,.I 2 0] (.seq (.r [.F 7 1 0,.l 8 1 0 1,.N 9 8,.C 10 .gtr 9 40,.M 11 10,.g 12 (.fad 1 1) 11 false,.g 13 (.ldf 1 1 1 false) 11 false,.g 14 (.lenl (.t 13)) 11 false,.g 15 (.bin .gtr (.t 14) (.i 40)) 11 false,.Q 16 11 15] (.i 16 (.v [.I 2 3]))) (.seq (.r [.I 3 0] (.block 0 (.loop (f230l0)))) (f230r1)))
def f230:Qk:=⟨1,81,[.tmp 2],f230C,false⟩
@[simp] theorem f230B:f230.body=f230C∧f230.res=[.tmp 2]∧f230.keep=false:=⟨rfl,rfl,rfl⟩
def f231C:AC:= .r [.b 1 0,.f 2 false] (.seq (.r [.F 4 1 0,.l 5 1 0 1,.C 6 .eql 5 3] (.i 6 (.v [.F 7 1 1,.l 8 1 1 1,.o 9 (.bin .eql (.t 8) (.c (.str [122,101,114,111]))),.M 10 9,.g 11 (.fad 1 1) 10 false,.g 12 (.ldf 1 1 1 false) 10 false,.g 13 (.bin .eql (.t 12) (.c (.str [111,110,101]))) 10 false,.Q 14 10 13,.M 15 14,.g 16 (.fad 1 3) 15 true,.g 17 (.ldf 1 3 1 false) 15 true,.g 18 (.lenl (.t 17)) 15 true,.g 19 (.bin .eql (.t 18) (.i 0)) 15 true,.P 20 15 19,.M 2 20]))) (.seq (.r [.F 21 1 0,.l 22 1 0 1,.C 23 .neq 22 2] (.i 23 (.v [.f 2 false]))) (.r [.F 24 1 2,.l 25 1 2 1,.C 26 .eql 25 2,.M 27 26,.g 28 (.fad 1 2) 27 false,.g 29 (.ldf 1 2 1 false) 27 false,.g 30 (.bin .eql (.t 29) (.i 3)) 27 false,.Q 31 27 30,.M 32 31,.g 33 (.fad 1 2) 32 false,.g 34 (.ldf 1 2 1 false) 32 false,.g 35 (.bin .eql (.t 34) (.i 4)) 32 false,.Q 36 32 35,.M 37 36,.g 38 (.fad 1 2) 37 false,.g 39 (.ldf 1 2 1 false) 37 false,.g 40 (.bin .eql (.t 39) (.i 0)) 37 false,.Q 41 37 40,.M 3 41] (.v [.F 42 1 2,.l 43 1 2 1,.C 44 .eql 43 1,.M 45 44,.g 46 (.fad 1 2) 45 false,.g 47 (.ldf 1 2 1 false) 45 false,.g 48 (.bin .eql (.t 47) (.i 5)) 45 false,.Q 49 45 48,.M 50 49,.g 51 (.fad 1 1) 50 false,.g 52 (.ldf 1 1 1 false) 50 false,.g 53 (.bin .eql (.t 52) (.c (.str [103]))) 50 false,.g 54 (.m 53) 50 false,.g 55 (.fad 1 2) 54 true,.g 56 (.ldf 1 2 1 false) 54 true,.g 57 (.bin .eql (.t 56) (.i 4)) 54 true,.g 58 (.pick (.t 54) (.t 57) (.c (.bool false))) 50 false,.Q 59 50 58,.M 60 59,.g 61 (.m 3) 60 false,.g 62 (.m 61) 60 false,.g 63 (.fad 1 1) 62 true,.g 64 (.ldf 1 1 1 false) 62 true,.g 65 (.call 232 [.t 64]) 62 true,.g 66 (.pick (.t 62) (.t 65) (.c (.bool false))) 60 false,.Q 67 60 66,.M 2 67]))))
def f231:Qk:=⟨1,68,[.tmp 2],f231C,false⟩
@[simp] theorem f231B:f231.body=f231C∧f231.res=[.tmp 2]∧f231.keep=false:=⟨rfl,rfl,rfl⟩
def f232l0:AC:= .seq (.r [.M 12 3,.M 13 0,.o 14 (.lens (.t 13)),.B 15 .lss 12 14] (.x 15 0)) (.seq (.block 1 (.r [.M 18 0,.M 19 3,.o 20 (.idx (.t 18) (.t 19)),.o 21 (.bin .lss (.t 20) (.c (.int .u8 48))),.M 22 21,.g 23 (.m 0) 22 false,.g 24 (.m 3) 22 false,.g 25 (.idx (.t 23) (.t 24)) 22 false,.g 26 (.bin .gtr (.t 25) (.c (.int .u8 57))) 22 false,.Q 27 22 26] (.i 27 (.v [.f 2 false])))) (.q [.M 16 3,.C 17 .add 16 1,.M 3 17]))
def f232r0:AC:= .v [.f 2 true]
def f232C:AC:= .r [.f 2 false] (.seq (.r [.M 4 0,.o 5 (.lens (.t 4)),.C 6 .lss 5 3,.M 7 6,.g 8 (.m 0) 7 false,.g 9 (.slcs (.t 8) none (some (.i 2))) 7 false,.g 10 (.bin .neq (.t 9) (.c (.str [101,35]))) 7 false,.Q 11 7 10] (.i 11 (.v [.f 2 false]))) (.seq (.r [.I 3 2] (.block 0 (.loop (f232l0)))) (f232r0)))
def f232:Qk:=⟨1,28,[.tmp 2],f232C,false⟩
@[simp] theorem f232B:f232.body=f232C∧f232.res=[.tmp 2]∧f232.keep=false:=⟨rfl,rfl,rfl⟩
def f233C:AC:= .r [.b 1 0,.I 2 0] (.seq (.r [.L 4 1 0 4,.c 5 126 [.t 4],.M 3 5] (.r [.M 6 3,.C 7 .neq 6 0] (.i 7 (.v [.M 8 3,.M 2 8])))) (.seq (.r [.L 9 1 0 4,.c 10 234 [.t 9],.o 11 (.un .not (.t 10))] (.i 11 (.v [.I 2 13]))) (.seq (.r [.L 12 1 0 4,.c 13 240 [.t 12],.o 14 (.un .not (.t 13))] (.i 14 (.v [.I 2 10]))) (.v [.I 2 0]))))
def f233:Qk:=⟨1,15,[.tmp 2],f233C,false⟩
@[simp] theorem f233B:f233.body=f233C∧f233.res=[.tmp 2]∧f233.keep=false:=⟨rfl,rfl,rfl⟩
def f234C:AC:= .r [.b 1 0,.f 2 false] (.v [.L 3 1 0 4,.c 4 235 [.t 3],.N 5 4,.C 6 .eql 5 0,.M 2 6])
def f234:Qk:=⟨1,7,[.tmp 2],f234C,false⟩
def f235C:AC:= .r [.b 1 0,.Z 2 4] (.v [.L 3 1 0 4,.c 4 236 [.t 3,.i 1],.o 2 (.mvs 4)])
def f235:Qk:=⟨1,5,[.tmp 2],f235C,false⟩
def f236l0:AC:= .seq (.r [.M 10 7,.M 11 6,.N 12 11,.B 13 .lss 10 12] (.x 13 0)) (.seq (.block 1 (.r [.M 16 6,.M 17 7,.X 18 4 16 17,.o 19 (.fadr 18 0),.DF 20 19 1,.M 21 1,.B 22 .eql 20 21] (.i 22 (.q [.o 23 (.mvs 5),.M 24 6,.M 25 7,.X 26 4 24 25,.DT 27 26 4,.o 28 (.mksl 4 [.t 27]),.A 29 56 4 23 28,.o 5 (.mvs 29)])))) (.q [.M 14 7,.C 15 .add 14 1,.M 7 15]))
def f236r0:AC:= .v [.M 30 5,.c 31 238 [.t 30],.o 4 (.mvs 31)]
def f236C:AC:= .r [.b 2 0,.Z 4 4] (.r [.Z 5 4] (.r [.L 8 2 0 4,.c 9 237 [.t 8],.o 6 (.mvs 9)] (.seq (.r [.I 7 0] (.block 0 (.loop (f236l0)))) (f236r0))))
def f236:Qk:=⟨2,32,[.tmp 4],f236C,false⟩
@[simp] theorem f236B:f236.body=f236C∧f236.res=[.tmp 4]∧f236.keep=false:=⟨rfl,rfl,rfl⟩
def f237l0:AC:= .seq (.r [.M 7 4,.F 8 1 3,.l 9 1 3 1,.N 10 9,.B 11 .lss 7 10] (.x 11 0)) (.seq (.block 1 (.q [.o 14 (.mvs 3),.F 15 1 3,.l 16 1 3 1,.M 17 4,.X 18 4 16 17,.DT 19 18 4,.c 20 237 [.t 19],.A 21 56 4 14 20,.o 3 (.mvs 21)])) (.q [.M 12 4,.C 13 .add 12 1,.M 4 13]))
def f237r0:AC:= .v [.M 22 3,.o 2 (.mvs 22)]
def f237C:AC:= .r [.b 1 0,.Z 2 4] (.r [.L 5 1 0 4,.o 6 (.mksl 4 [.t 5]),.o 3 (.mvs 6)] (.seq (.r [.I 4 0] (.block 0 (.loop (f237l0)))) (f237r0)))
def f237:Qk:=⟨1,23,[.tmp 2],f237C,false⟩
@[simp] theorem f237B:f237.body=f237C∧f237.res=[.tmp 2]∧f237.keep=false:=⟨rfl,rfl,rfl⟩
def f238l0:AC:= .seq (.r [.M 5 4,.M 6 0,.N 7 6,.B 8 .lss 5 7] (.x 8 0)) (.seq (.block 1 (.q [.M 11 3,.M 12 0,.M 13 4,.X 14 4 12 13,.DT 15 14 4,.c 16 239 [.t 11,.t 15],.o 3 (.mvs 16)])) (.q [.M 9 4,.C 10 .add 9 1,.M 4 10]))
def f238r0:AC:= .v [.M 17 3,.o 2 (.mvs 17)]
def f238C:AC:= .r [.Z 2 4] (.r [.Z 3 4] (.seq (.r [.I 4 0] (.block 0 (.loop (f238l0)))) (f238r0)))
def f238:Qk:=⟨1,18,[.tmp 2],f238C,false⟩
@[simp] theorem f238B:f238.body=f238C∧f238.res=[.tmp 2]∧f238.keep=false:=⟨rfl,rfl,rfl⟩
def f239l0:AC:= .seq (.r [.M 9 7,.M 10 0,.N 11 10,.B 12 .lss 9 11] (.x 12 0)) (.seq (.block 1 (.seq (.z [.L 15 3 0 4,.M 16 0,.M 17 7,.X 18 4 16 17,.DT 19 18 4,.c 20 90 [.t 15,.t 19],.M 8 20]) (.seq (.r [.M 21 6,.o 22 (.un .not (.t 21)),.M 23 22,.g 24 (.m 8) 23 true,.g 25 (.bin .leq (.t 24) (.i 0)) 23 true,.P 26 23 25] (.i 26 (.r [.f 6 true] (.r [.M 27 8,.C 28 .lss 27 0] (.i 28 (.q [.o 29 (.mvs 5),.L 30 3 0 4,.o 31 (.mksl 4 [.t 30]),.A 32 56 4 29 31,.o 5 (.mvs 32)])))))) (.q [.o 33 (.mvs 5),.M 34 0,.M 35 7,.X 36 4 34 35,.DT 37 36 4,.o 38 (.mksl 4 [.t 37]),.A 39 56 4 33 38,.o 5 (.mvs 39)])))) (.q [.M 13 7,.C 14 .add 13 1,.M 7 14]))
def f239r0:AC:= .seq (.r [.M 40 6,.o 41 (.un .not (.t 40))] (.i 41 (.q [.o 42 (.mvs 5),.L 43 3 0 4,.o 44 (.mksl 4 [.t 43]),.A 45 56 4 42 44,.o 5 (.mvs 45)]))) (.v [.M 46 5,.o 4 (.mvs 46)])
def f239C:AC:= .r [.b 3 1,.Z 4 4] (.r [.Z 5 4] (.r [.f 6 false] (.seq (.r [.I 7 0] (.block 0 (.loop (f239l0)))) (f239r0))))
def f239:Qk:=⟨2,47,[.tmp 4],f239C,false⟩
@[simp] theorem f239B:f239.body=f239C∧f239.res=[.tmp 4]∧f239.keep=false:=⟨rfl,rfl,rfl⟩
def f240l0:AC:= .seq (.r [.M 22 6,.M 23 5,.N 24 23,.B 25 .lss 22 24] (.x 25 0)) (.seq (.block 1 (.r [.M 28 5,.M 29 6,.X 30 4 28 29,.o 31 (.fadr 30 0),.DF 32 31 1,.C 33 .eql 32 3,.M 34 33,.g 35 (.m 5) 34 true,.g 36 (.m 6) 34 true,.g 37 (.idxa 4 (.t 35) (.t 36)) 34 true,.g 38 (.fadr 37 1) 34 true,.g 39 (.ld 38 1 false) 34 true,.g 40 (.call 128 [.t 39]) 34 true,.g 41 (.bin .eql (.t 40) (.i 3)) 34 true,.P 42 34 41] (.i 42 (.v [.f 2 false])))) (.q [.M 26 6,.C 27 .add 26 1,.M 6 27]))
def f240r0:AC:= .v [.f 2 true]
def f240C:AC:= .r [.b 1 0,.f 2 false] (.r [.L 8 1 0 4,.c 9 241 [.t 8],.M 7 9,.E 10 7 0,.E 11 7 1,.T 3,.S 3 0 4 10,.M 4 11] (.seq (.r [.M 12 4,.C 13 .neq 12 0,.M 14 13,.g 15 (.ldf 1 0 4 true) 14 false,.g 16 (.ldf 3 0 4 true) 14 false,.g 17 (.call 89 [.t 15,.t 16]) 14 false,.g 18 (.un .not (.t 17)) 14 false,.Q 19 14 18] (.i 19 (.v [.f 2 false]))) (.r [.L 20 1 0 4,.c 21 237 [.t 20],.o 5 (.mvs 21)] (.seq (.r [.I 6 0] (.block 0 (.loop (f240l0)))) (f240r0)))))
def f240:Qk:=⟨1,43,[.tmp 2],f240C,false⟩
@[simp] theorem f240B:f240.body=f240C∧f240.res=[.tmp 2]∧f240.keep=false:=⟨rfl,rfl,rfl⟩
def f241C:AC:= .r [.b 1 0,.T 2,.I 3 0] (.seq (.r [.L 8 1 0 4,.c 9 126 [.t 8],.M 4 9] (.r [.M 10 4,.C 11 .neq 10 0] (.i 11 (.v [.o 12 (.mkst zG []),.M 13 4,.n (.stn 2 0 4 (.t 12) zT),.M 3 13])))) (.r [.L 15 1 0 4,.c 16 242 [.t 15],.M 14 16,.E 17 14 0,.E 18 14 1,.T 5,.S 5 0 4 17,.M 6 18] (.seq (.r [.M 19 6,.C 20 .neq 19 0] (.i 20 (.v [.o 21 (.mkst zG []),.M 22 6,.n (.stn 2 0 4 (.t 21) zT),.M 3 22]))) (.seq (.r [.L 23 5 0 4,.c 24 54 [.t 23],.M 7 24] (.r [.M 25 7,.C 26 .neq 25 0] (.i 26 (.v [.o 27 (.mkst zG []),.M 28 7,.n (.stn 2 0 4 (.t 27) zT),.M 3 28])))) (.v [.L 29 5 0 4,.S 2 0 4 29,.I 3 0])))))
def f241:Qk:=⟨1,30,[.cell 2 4 true,.tmp 3],f241C,false⟩
@[simp] theorem f241B:f241.body=f241C∧f241.res=[.cell 2 4 true,.tmp 3]∧f241.keep=false:=⟨rfl,rfl,rfl⟩
def f242l0:AC:= .seq (.r [.M 15 5,.F 16 1 3,.l 17 1 3 1,.N 18 17,.B 19 .lss 15 18] (.x 19 0)) (.seq (.block 1 (.r [.F 23 1 3,.l 24 1 3 1,.M 25 5,.X 26 4 24 25,.DT 27 26 4,.c 28 242 [.t 27],.M 22 28,.E 29 22 0,.E 30 22 1,.T 6,.S 6 0 4 29,.M 7 30] (.seq (.r [.M 31 7,.C 32 .neq 31 0] (.i 32 (.v [.o 33 (.mkst zG []),.M 34 7,.n (.stn 2 0 4 (.t 33) zT),.M 3 34]))) (.q [.o 35 (.mvs 4),.L 36 6 0 4,.o 37 (.mksl 4 [.t 36]),.A 38 56 4 35 37,.o 4 (.mvs 38)])))) (.q [.M 20 5,.C 21 .add 20 1,.M 5 21]))
def f242r0:AC:= .r [.F 39 1 1,.l 40 1 1 1,.M 41 4,.c 42 120 [.t 40,.t 41],.T 8,.S 8 0 4 42] (.seq (.block 2 (.r [.F 44 1 1,.l 45 1 1 1,.c 46 128 [.t 45],.C 47 .eql 46 3,.M 43 47] (.cond (.t 43) (.r [.L 49 8 0 4,.c 50 243 [.t 49],.M 48 50,.E 51 48 0,.E 52 48 1,.T 9,.S 9 0 4 51,.M 10 52] (.v [.L 53 9 0 4,.S 2 0 4 53,.I 3 0])) (.r [.F 55 1 1,.l 56 1 1 1,.o 57 (.bin .eql (.t 56) (.c (.str [120,111,114]))),.M 54 57] (.cond (.t 54) (.v [.M 58 4,.c 59 244 [.t 58],.E 60 59 0,.E 61 59 1,.S 2 0 4 60,.M 3 61]) (.r [.F 63 1 1,.l 64 1 1 1,.o 65 (.bin .eql (.t 64) (.c (.str [109,117,108]))),.M 66 65,.g 67 (.fad 1 1) 66 false,.g 68 (.ldf 1 1 1 false) 66 false,.g 69 (.bin .eql (.t 68) (.c (.str [105,110,118]))) 66 false,.Q 70 66 69,.M 71 70,.g 72 (.fad 1 1) 71 false,.g 73 (.ldf 1 1 1 false) 71 false,.g 74 (.bin .eql (.t 73) (.c (.str [111,110,101]))) 71 false,.Q 75 71 74,.M 62 75] (.cond (.t 62) (.v [.L 76 8 0 4,.c 77 252 [.t 76],.E 78 77 0,.E 79 77 1,.S 2 0 4 78,.M 3 79]) (.r [.F 81 1 1,.l 82 1 1 1,.o 83 (.bin .eql (.t 82) (.c (.str [101,120,112]))),.M 80 83] (.i 80 (.seq (.z [.M 84 4,.o 85 (.idxa 4 (.t 84) (.i 0)),.DT 86 85 4,.M 87 4,.o 88 (.idxa 4 (.t 87) (.i 1)),.DT 89 88 4,.c 90 261 [.t 86,.t 89],.E 91 90 0,.E 92 90 1,.S 2 0 4 91,.M 3 92]) (.ret))))))))))) (.v [.L 93 8 0 4,.S 2 0 4 93,.I 3 0]))
def f242C:AC:= .r [.b 1 0,.T 2,.I 3 0] (.seq (.r [.F 11 1 0,.l 12 1 0 1,.C 13 .neq 12 3] (.i 13 (.v [.L 14 1 0 4,.S 2 0 4 14,.I 3 0]))) (.r [.Z 4 4] (.seq (.r [.I 5 0] (.block 0 (.loop (f242l0)))) (f242r0))))
def f242:Qk:=⟨1,94,[.cell 2 4 true,.tmp 3],f242C,false⟩
@[simp] theorem f242B:f242.body=f242C∧f242.res=[.cell 2 4 true,.tmp 3]∧f242.keep=false:=⟨rfl,rfl,rfl⟩
def f243C:AC:= .r [.b 1 0,.T 2,.f 3 false] (.r [.F 5 1 3,.l 6 1 3 1,.o 7 (.idxa 4 (.t 6) (.i 0)),.DT 8 7 4,.T 4,.S 4 0 4 8] (.seq (.block 0 (.r [.F 10 1 1,.l 11 1 1 1,.o 12 (.bin .eql (.t 11) (.c (.str [102,115,116]))),.M 13 12,.g 14 (.ldf 4 0 4 true) 13 true,.g 15 (.call 132 [.t 14,.c (.str [112,97,105,114])]) 13 true,.P 16 13 15,.M 9 16] (.cond (.t 9) (.v [.F 17 4 3,.l 18 4 3 1,.o 19 (.idxa 4 (.t 18) (.i 0)),.DT 20 19 4,.S 2 0 4 20,.f 3 true]) (.r [.F 22 1 1,.l 23 1 1 1,.o 24 (.bin .eql (.t 23) (.c (.str [115,110,100]))),.M 25 24,.g 26 (.ldf 4 0 4 true) 25 true,.g 27 (.call 132 [.t 26,.c (.str [112,97,105,114])]) 25 true,.P 28 25 27,.M 21 28] (.cond (.t 21) (.v [.F 29 4 3,.l 30 4 3 1,.o 31 (.idxa 4 (.t 30) (.i 1)),.DT 32 31 4,.S 2 0 4 32,.f 3 true]) (.seq (.z [.F 34 1 1,.l 35 1 1 1,.o 36 (.bin .eql (.t 35) (.c (.str [100,101,99]))),.M 37 36,.g 38 (.ldf 4 0 4 true) 37 true,.g 39 (.call 132 [.t 38,.c (.str [101,110,99])]) 37 true,.P 40 37 39,.M 41 40,.g 42 (.fad 4 3) 41 true,.g 43 (.ldf 4 3 1 false) 41 true,.g 44 (.idxa 4 (.t 43) (.i 1)) 41 true,.g 45 (.ld 44 4 true) 41 true,.g 46 (.fad 1 3) 41 true,.g 47 (.ldf 1 3 1 false) 41 true,.g 48 (.idxa 4 (.t 47) (.i 1)) 41 true,.g 49 (.ld 48 4 true) 41 true,.g 50 (.call 89 [.t 45,.t 49]) 41 true,.P 51 41 50,.M 33 51]) (.cond (.t 33) (.v [.F 52 4 3,.l 53 4 3 1,.o 54 (.idxa 4 (.t 53) (.i 0)),.DT 55 54 4,.S 2 0 4 55,.f 3 true]) (.seq (.z [.F 57 1 1,.l 58 1 1 1,.o 59 (.bin .eql (.t 58) (.c (.str [97,100,101,99]))),.M 60 59,.g 61 (.ldf 4 0 4 true) 60 true,.g 62 (.call 132 [.t 61,.c (.str [97,101,110,99])]) 60 true,.P 63 60 62,.M 64 63,.g 65 (.fad 4 3) 64 true,.g 66 (.ldf 4 3 1 false) 64 true,.g 67 (.idxa 4 (.t 66) (.i 1)) 64 true,.g 68 (.ld 67 4 true) 64 true,.g 69 (.fad 1 3) 64 true,.g 70 (.ldf 1 3 1 false) 64 true,.g 71 (.idxa 4 (.t 70) (.i 1)) 64 true,.g 72 (.ld 71 4 true) 64 true,.g 73 (.mksl 4 [.t 72]) 64 true,.g 74 (.call 120 [.c (.str [112,107]),.t 73]) 64 true,.g 75 (.call 89 [.t 68,.t 74]) 64 true,.P 76 64 75,.M 56 76]) (.cond (.t 56) (.v [.F 77 4 3,.l 78 4 3 1,.o 79 (.idxa 4 (.t 78) (.i 0)),.DT 80 79 4,.S 2 0 4 80,.f 3 true]) (.seq (.z [.F 82 1 1,.l 83 1 1 1,.o 84 (.bin .eql (.t 83) (.c (.str [111,112,101,110]))),.M 85 84,.g 86 (.ldf 4 0 4 true) 85 true,.g 87 (.call 132 [.t 86,.c (.str [115,105,103,110])]) 85 true,.P 88 85 87,.M 89 88,.g 90 (.fad 1 3) 89 true,.g 91 (.ldf 1 3 1 false) 89 true,.g 92 (.idxa 4 (.t 91) (.i 1)) 89 true,.g 93 (.ld 92 4 true) 89 true,.g 94 (.fad 4 3) 89 true,.g 95 (.ldf 4 3 1 false) 89 true,.g 96 (.idxa 4 (.t 95) (.i 1)) 89 true,.g 97 (.ld 96 4 true) 89 true,.g 98 (.mksl 4 [.t 97]) 89 true,.g 99 (.call 120 [.c (.str [112,107]),.t 98]) 89 true,.g 100 (.call 89 [.t 93,.t 99]) 89 true,.P 101 89 100,.M 81 101]) (.cond (.t 81) (.v [.F 102 4 3,.l 103 4 3 1,.o 104 (.idxa 4 (.t 103) (.i 0)),.DT 105 104 4,.S 2 0 4 105,.f 3 true]) (.r [.F 107 1 1,.l 108 1 1 1,.o 109 (.bin .eql (.t 108) (.c (.str [114,101,97,100]))),.M 110 109,.g 111 (.ldf 4 0 4 true) 110 true,.g 112 (.call 132 [.t 111,.c (.str [115,105,103,110])]) 110 true,.P 113 110 112,.M 106 113] (.i 106 (.v [.F 114 4 3,.l 115 4 3 1,.o 116 (.idxa 4 (.t 115) (.i 0)),.DT 117 116 4,.S 2 0 4 117,.f 3 true])))))))))))))) (.v [.L 118 1 0 4,.S 2 0 4 118,.f 3 false])))
def f243:Qk:=⟨1,119,[.cell 2 4 true,.tmp 3],f243C,false⟩
@[simp] theorem f243B:f243.body=f243C∧f243.res=[.cell 2 4 true,.tmp 3]∧f243.keep=false:=⟨rfl,rfl,rfl⟩
def f244l0:AC:= .seq (.r [.M 15 6,.M 16 0,.N 17 16,.B 18 .lss 15 17] (.x 18 0)) (.seq (.block 1 (.q [.M 21 5,.M 22 0,.M 23 6,.X 24 4 22 23,.DT 25 24 4,.c 26 247 [.t 25],.c 27 248 [.t 21,.t 26],.o 5 (.mvs 27)])) (.q [.M 19 6,.C 20 .add 19 1,.M 6 20]))
def f244r0:AC:= .r [.M 28 5,.c 29 251 [.t 28],.T 7,.S 7 0 4 29] (.seq (.r [.L 30 7 0 4,.c 31 54 [.t 30],.C 32 .neq 31 0] (.i 32 (.v [.o 33 (.mkst zG []),.n (.stn 2 0 4 (.t 33) zT),.I 3 3]))) (.v [.L 34 7 0 4,.S 2 0 4 34,.I 3 0]))
def f244C:AC:= .r [.T 2,.I 3 0] (.seq (.r [.M 8 0,.c 9 245 [],.c 10 246 [.t 8,.t 9],.M 4 10] (.r [.M 11 4,.C 12 .neq 11 0] (.i 12 (.v [.o 13 (.mkst zG []),.M 14 4,.n (.stn 2 0 4 (.t 13) zT),.M 3 14])))) (.r [.Z 5 4] (.seq (.r [.I 6 0] (.block 0 (.loop (f244l0)))) (f244r0))))
def f244:Qk:=⟨1,35,[.cell 2 4 true,.tmp 3],f244C,false⟩
@[simp] theorem f244B:f244.body=f244C∧f244.res=[.cell 2 4 true,.tmp 3]∧f244.keep=false:=⟨rfl,rfl,rfl⟩
def f245C:AC:= .r [.T 0] (.v [.c 1 120 [.c (.str [122,101,114,111]),.c (.sl true 4 [])],.S 0 0 4 1])
def f245:Qk:=⟨0,2,[.cell 0 4 true],f245C,false⟩
def f246l0:AC:= .seq (.r [.M 10 5,.M 11 0,.N 12 11,.B 13 .lss 10 12] (.x 13 0)) (.seq (.block 1 (.r [.M 16 0,.M 17 5,.X 18 4 16 17,.DT 19 18 4,.c 20 54 [.t 19],.M 6 20] (.r [.M 21 6,.C 22 .neq 21 0] (.i 22 (.v [.M 23 6,.M 4 23]))))) (.q [.M 14 5,.C 15 .add 14 1,.M 5 15]))
def f246r0:AC:= .v [.L 24 3 0 4,.c 25 54 [.t 24],.M 4 25]
def f246C:AC:= .r [.b 3 1,.I 4 0] (.seq (.r [.M 7 0,.N 8 7,.C 9 .gtr 8 200] (.i 9 (.v [.I 4 3]))) (.seq (.r [.I 5 0] (.block 0 (.loop (f246l0)))) (f246r0)))
def f246:Qk:=⟨2,26,[.tmp 4],f246C,false⟩
@[simp] theorem f246B:f246.body=f246C∧f246.res=[.tmp 4]∧f246.keep=false:=⟨rfl,rfl,rfl⟩
def f247l0:AC:= .seq (.r [.M 29 4,.F 30 1 3,.l 31 1 3 1,.N 32 31,.B 33 .lss 29 32] (.x 33 0)) (.seq (.block 1 (.q [.M 36 3,.F 37 1 3,.l 38 1 3 1,.M 39 4,.X 40 4 38 39,.DT 41 40 4,.c 42 247 [.t 41],.c 43 248 [.t 36,.t 42],.o 3 (.mvs 43)])) (.q [.M 34 4,.C 35 .add 34 1,.M 4 35]))
def f247r0:AC:= .v [.M 44 3,.o 2 (.mvs 44)]
def f247C:AC:= .r [.b 1 0,.Z 2 4] (.seq (.r [.F 5 1 0,.l 6 1 0 1,.C 7 .eql 6 3,.M 8 7,.g 9 (.fad 1 1) 8 true,.g 10 (.ldf 1 1 1 false) 8 true,.g 11 (.bin .eql (.t 10) (.c (.str [122,101,114,111]))) 8 true,.P 12 8 11,.M 13 12,.g 14 (.fad 1 3) 13 true,.g 15 (.ldf 1 3 1 false) 13 true,.g 16 (.lenl (.t 15)) 13 true,.g 17 (.bin .eql (.t 16) (.i 0)) 13 true,.P 18 13 17] (.i 18 (.v [.Z 2 4]))) (.seq (.r [.F 19 1 0,.l 20 1 0 1,.C 21 .neq 20 3,.M 22 21,.g 23 (.fad 1 1) 22 false,.g 24 (.ldf 1 1 1 false) 22 false,.g 25 (.bin .neq (.t 24) (.c (.str [120,111,114]))) 22 false,.Q 26 22 25] (.i 26 (.v [.L 27 1 0 4,.o 28 (.mksl 4 [.t 27]),.o 2 (.mvs 28)]))) (.r [.Z 3 4] (.seq (.r [.I 4 0] (.block 0 (.loop (f247l0)))) (f247r0)))))
def f247:Qk:=⟨1,45,[.tmp 2],f247C,false⟩
@[simp] theorem f247B:f247.body=f247C∧f247.res=[.tmp 2]∧f247.keep=false:=⟨rfl,rfl,rfl⟩
def f248l0:AC:= .seq (.r [.M 10 6,.M 11 1,.N 12 11,.B 13 .lss 10 12] (.x 13 0)) (.seq (.block 1 (.q [.M 16 5,.M 17 1,.M 18 6,.X 19 4 17 18,.DT 20 19 4,.c 21 249 [.t 16,.t 20],.o 5 (.mvs 21)])) (.q [.M 14 6,.C 15 .add 14 1,.M 6 15]))
def f248r0:AC:= .v [.M 22 5,.o 4 (.mvs 22)]
def f248C:AC:= .r [.Z 4 4] (.r [.o 7 (.mksl 4 []),.M 8 0,.A 9 56 4 7 8,.o 5 (.mvs 9)] (.seq (.r [.I 6 0] (.block 0 (.loop (f248l0)))) (f248r0)))
def f248:Qk:=⟨2,23,[.tmp 4],f248C,false⟩
@[simp] theorem f248B:f248.body=f248C∧f248.res=[.tmp 4]∧f248.keep=false:=⟨rfl,rfl,rfl⟩
def f249l0:AC:= .seq (.r [.M 14 6,.M 15 0,.N 16 15,.B 17 .lss 14 16] (.x 17 0)) (.seq (.block 1 (.seq (.z [.M 20 0,.M 21 6,.X 22 4 20 21,.DT 23 22 4,.L 24 3 0 4,.c 25 89 [.t 23,.t 24],.o 26 (.un .not (.t 25))]) (.i 26 (.q [.o 27 (.mvs 5),.M 28 0,.M 29 6,.X 30 4 28 29,.DT 31 30 4,.o 32 (.mksl 4 [.t 31]),.A 33 56 4 27 32,.o 5 (.mvs 33)])))) (.q [.M 18 6,.C 19 .add 18 1,.M 6 19]))
def f249r0:AC:= .v [.M 34 5,.o 4 (.mvs 34)]
def f249C:AC:= .r [.b 3 1,.Z 4 4] (.seq (.r [.M 7 0,.L 8 3 0 4,.c 9 250 [.t 7,.t 8],.o 10 (.un .not (.t 9))] (.i 10 (.v [.M 11 0,.L 12 3 0 4,.c 13 239 [.t 11,.t 12],.o 4 (.mvs 13)]))) (.r [.Z 5 4] (.seq (.r [.I 6 0] (.block 0 (.loop (f249l0)))) (f249r0))))
def f249:Qk:=⟨2,35,[.tmp 4],f249C,false⟩
@[simp] theorem f249B:f249.body=f249C∧f249.res=[.tmp 4]∧f249.keep=false:=⟨rfl,rfl,rfl⟩
def f250l0:AC:= .seq (.r [.M 6 5,.M 7 0,.N 8 7,.B 9 .lss 6 8] (.x 9 0)) (.seq (.block 1 (.seq (.z [.M 12 0,.M 13 5,.X 14 4 12 13,.DT 15 14 4,.L 16 3 0 4,.c 17 89 [.t 15,.t 16]]) (.i 17 (.v [.f 4 true])))) (.q [.M 10 5,.C 11 .add 10 1,.M 5 11]))
def f250r0:AC:= .v [.f 4 false]
def f250C:AC:= .r [.b 3 1,.f 4 false] (.seq (.r [.I 5 0] (.block 0 (.loop (f250l0)))) (f250r0))
def f250:Qk:=⟨2,18,[.tmp 4],f250C,false⟩
@[simp] theorem f250B:f250.body=f250C∧f250.res=[.tmp 4]∧f250.keep=false:=⟨rfl,rfl,rfl⟩
def f251C:AC:= .r [.T 2] (.seq (.r [.M 3 0,.N 4 3,.C 5 .eql 4 0] (.i 5 (.v [.c 6 120 [.c (.str [122,101,114,111]),.c (.sl true 4 [])],.S 2 0 4 6]))) (.seq (.r [.M 7 0,.N 8 7,.C 9 .eql 8 1] (.i 9 (.v [.M 10 0,.o 11 (.idxa 4 (.t 10) (.i 0)),.DT 12 11 4,.S 2 0 4 12]))) (.v [.o 13 (.mksl 4 []),.M 14 0,.A 15 56 4 13 14,.o 16 (.mkst zT [(0,1,.i 3),(1,1,.c (.str [120,111,114])),(3,1,.t 15)]),.S 2 0 4 16])))
def f251:Qk:=⟨1,17,[.cell 2 4 true],f251C,false⟩
@[simp] theorem f251B:f251.body=f251C∧f251.res=[.cell 2 4 true]∧f251.keep=false:=⟨rfl,rfl,rfl⟩
def f252C:AC:= .r [.b 1 0,.T 2,.I 3 0] (.r [.L 7 1 0 4,.c 8 253 [.t 7],.M 6 8,.E 9 6 0,.E 10 6 1,.o 4 (.mvs 9),.M 5 10] (.seq (.r [.M 11 5,.C 12 .neq 11 0] (.i 12 (.v [.o 13 (.mkst zG []),.M 14 5,.n (.stn 2 0 4 (.t 13) zT),.M 3 14]))) (.v [.M 15 4,.c 16 258 [.t 15],.E 17 16 0,.E 18 16 1,.S 2 0 4 17,.M 3 18])))
def f252:Qk:=⟨1,19,[.cell 2 4 true,.tmp 3],f252C,false⟩
@[simp] theorem f252B:f252.body=f252C∧f252.res=[.cell 2 4 true,.tmp 3]∧f252.keep=false:=⟨rfl,rfl,rfl⟩
def f253C:AC:= .r [.b 1 0,.Z 2 5,.I 3 0] (.seq (.r [.L 6 1 0 4,.c 7 54 [.t 6],.M 4 7] (.r [.M 8 4,.C 9 .neq 8 0] (.i 9 (.v [.M 10 4,.Z 2 5,.M 3 10])))) (.seq (.r [.L 11 1 0 4,.c 12 254 [.t 11],.o 13 (.un .not (.t 12))] (.i 13 (.v [.Z 2 5,.I 3 6]))) (.r [.L 14 1 0 4,.c 15 256 [.c (.sl true 5 []),.t 14,.i 1],.o 5 (.mvs 15)] (.seq (.r [.M 16 5,.N 17 16,.C 18 .gtr 17 200] (.i 18 (.v [.Z 2 5,.I 3 3]))) (.v [.M 19 5,.o 2 (.mvs 19),.I 3 0])))))
def f253:Qk:=⟨1,20,[.tmp 2,.tmp 3],f253C,false⟩
@[simp] theorem f253B:f253.body=f253C∧f253.res=[.tmp 2,.tmp 3]∧f253.keep=false:=⟨rfl,rfl,rfl⟩
def f254l0:AC:= .seq (.r [.M 36 4,.M 37 3,.B 38 .lss 36 37] (.x 38 0)) (.seq (.block 1 (.r [.F 41 1 3,.l 42 1 3 1,.M 43 4,.X 44 4 42 43,.DT 45 44 4,.c 46 254 [.t 45],.o 47 (.un .not (.t 46))] (.i 47 (.v [.f 2 false])))) (.q [.M 39 4,.C 40 .add 39 1,.M 4 40]))
def f254r0:AC:= .v [.f 2 true]
def f254C:AC:= .r [.b 1 0,.f 2 false] (.seq (.r [.L 5 1 0 4,.c 6 255 [.t 5],.o 7 (.un .not (.t 6))] (.i 7 (.v [.f 2 true]))) (.r [.F 8 1 3,.l 9 1 3 1,.N 10 9,.M 3 10] (.seq (.r [.F 11 1 1,.l 12 1 1 1,.o 13 (.bin .eql (.t 12) (.c (.str [109,117,108]))),.M 14 13,.g 15 (.m 3) 14 true,.g 16 (.bin .lss (.t 15) (.i 2)) 14 true,.P 17 14 16,.M 18 17,.g 19 (.fad 1 1) 18 false,.g 20 (.ldf 1 1 1 false) 18 false,.g 21 (.bin .eql (.t 20) (.c (.str [105,110,118]))) 18 false,.g 22 (.m 21) 18 false,.g 23 (.m 3) 22 true,.g 24 (.bin .neq (.t 23) (.i 1)) 22 true,.g 25 (.pick (.t 22) (.t 24) (.c (.bool false))) 18 false,.Q 26 18 25,.M 27 26,.g 28 (.fad 1 1) 27 false,.g 29 (.ldf 1 1 1 false) 27 false,.g 30 (.bin .eql (.t 29) (.c (.str [111,110,101]))) 27 false,.g 31 (.m 30) 27 false,.g 32 (.m 3) 31 true,.g 33 (.bin .neq (.t 32) (.i 0)) 31 true,.g 34 (.pick (.t 31) (.t 33) (.c (.bool false))) 27 false,.Q 35 27 34] (.i 35 (.v [.f 2 false]))) (.seq (.r [.I 4 0] (.block 0 (.loop (f254l0)))) (f254r0)))))
def f254:Qk:=⟨1,48,[.tmp 2],f254C,false⟩
@[simp] theorem f254B:f254.body=f254C∧f254.res=[.tmp 2]∧f254.keep=false:=⟨rfl,rfl,rfl⟩
def f255C:AC:= .r [.b 1 0,.f 2 false] (.v [.F 3 1 0,.l 4 1 0 1,.C 5 .eql 4 3,.M 6 5,.g 7 (.fad 1 1) 6 true,.g 8 (.ldf 1 1 1 false) 6 true,.g 9 (.bin .eql (.t 8) (.c (.str [109,117,108]))) 6 true,.g 10 (.m 9) 6 true,.g 11 (.fad 1 1) 10 false,.g 12 (.ldf 1 1 1 false) 10 false,.g 13 (.bin .eql (.t 12) (.c (.str [105,110,118]))) 10 false,.g 14 (.pick (.t 10) (.c (.bool true)) (.t 13)) 6 true,.g 15 (.m 14) 6 true,.g 16 (.fad 1 1) 15 false,.g 17 (.ldf 1 1 1 false) 15 false,.g 18 (.bin .eql (.t 17) (.c (.str [111,110,101]))) 15 false,.g 19 (.pick (.t 15) (.c (.bool true)) (.t 18)) 6 true,.P 20 6 19,.M 2 20])
def f255:Qk:=⟨1,21,[.tmp 2],f255C,false⟩
@[simp] theorem f255B:f255.body=f255C∧f255.res=[.tmp 2]∧f255.keep=false:=⟨rfl,rfl,rfl⟩
def f256l0:AC:= .seq (.r [.M 20 7,.F 21 4 3,.l 22 4 3 1,.N 23 22,.B 24 .lss 20 23] (.x 24 0)) (.seq (.block 1 (.q [.M 27 0,.F 28 4 3,.l 29 4 3 1,.M 30 7,.X 31 4 29 30,.DT 32 31 4,.M 33 2,.c 34 256 [.t 27,.t 32,.t 33],.o 0 (.mvs 34)])) (.q [.M 25 7,.C 26 .add 25 1,.M 7 26]))
def f256r0:AC:= .v [.M 35 0,.o 6 (.mvs 35)]
def f256C:AC:= .r [.b 4 1,.Z 6 5] (.seq (.r [.L 8 4 0 4,.c 9 255 [.t 8],.o 10 (.un .not (.t 9))] (.i 10 (.v [.M 11 0,.L 12 4 0 4,.M 13 2,.c 14 257 [.t 11,.t 12,.t 13],.o 6 (.mvs 14)]))) (.seq (.r [.F 15 4 1,.l 16 4 1 1,.o 17 (.bin .eql (.t 16) (.c (.str [105,110,118])))] (.i 17 (.q [.M 18 2,.o 19 (.un .neg (.t 18)),.M 2 19]))) (.seq (.r [.I 7 0] (.block 0 (.loop (f256l0)))) (f256r0))))
def f256:Qk:=⟨3,36,[.tmp 6],f256C,false⟩
@[simp] theorem f256B:f256.body=f256C∧f256.res=[.tmp 6]∧f256.keep=false:=⟨rfl,rfl,rfl⟩
def f257l0:AC:= .seq (.r [.M 12 9,.M 13 0,.N 14 13,.B 15 .lss 12 14] (.x 15 0)) (.seq (.block 1 (.seq (.z [.L 18 4 0 4,.M 19 0,.M 20 9,.X 21 5 19 20,.o 22 (.fadr 21 0),.DT 23 22 4,.c 24 90 [.t 18,.t 23],.M 10 24]) (.seq (.r [.M 25 8,.o 26 (.un .not (.t 25)),.M 27 26,.g 28 (.m 10) 27 true,.g 29 (.bin .lss (.t 28) (.i 0)) 27 true,.P 30 27 29] (.i 30 (.r [.o 31 (.mvs 7),.L 32 4 0 4,.M 33 2,.o 34 (.mkst [.int .i64 0,.str [],.int .i64 0,.sl true 4 [],.int .i64 0] [(0,4,.t 32),(4,1,.t 33)]),.o 35 (.mksl 5 [.t 34]),.A 36 64 5 31 35,.o 7 (.mvs 36)] (.q [.f 8 true])))) (.r [.M 37 0,.M 38 9,.X 39 5 37 38,.DT 40 39 5,.o 11 (.alloc [.int .i64 0,.str [],.int .i64 0,.sl true 4 [],.int .i64 0]),.S 11 0 5 40] (.seq (.r [.M 41 10,.C 42 .eql 41 0] (.i 42 (.r [.F 43 11 4,.l 44 11 4 1,.M 45 2,.B 46 .add 44 45,.F 47 11 4,.S 11 4 1 46] (.q [.f 8 true])))) (.r [.F 48 11 4,.l 49 11 4 1,.C 50 .neq 49 0] (.i 50 (.q [.o 51 (.mvs 7),.L 52 11 0 5,.o 53 (.mksl 5 [.t 52]),.A 54 64 5 51 53,.o 7 (.mvs 54)])))))))) (.q [.M 16 9,.C 17 .add 16 1,.M 9 17]))
def f257r0:AC:= .seq (.r [.M 55 8,.o 56 (.un .not (.t 55))] (.i 56 (.q [.o 57 (.mvs 7),.L 58 4 0 4,.M 59 2,.o 60 (.mkst [.int .i64 0,.str [],.int .i64 0,.sl true 4 [],.int .i64 0] [(0,4,.t 58),(4,1,.t 59)]),.o 61 (.mksl 5 [.t 60]),.A 62 64 5 57 61,.o 7 (.mvs 62)]))) (.v [.M 63 7,.o 6 (.mvs 63)])
def f257C:AC:= .r [.b 4 1,.Z 6 5] (.r [.Z 7 5] (.r [.f 8 false] (.seq (.r [.I 9 0] (.block 0 (.loop (f257l0)))) (f257r0))))
def f257:Qk:=⟨3,64,[.tmp 6],f257C,false⟩
@[simp] theorem f257B:f257.body=f257C∧f257.res=[.tmp 6]∧f257.keep=false:=⟨rfl,rfl,rfl⟩
def f258C:AC:= .r [.T 2,.I 3 0] (.seq (.r [.M 8 0,.c 9 259 [.t 8],.M 4 9] (.r [.M 10 4,.C 11 .neq 10 0] (.i 11 (.v [.o 12 (.mkst zG []),.M 13 4,.n (.stn 2 0 4 (.t 12) zT),.M 3 13])))) (.r [.M 14 0,.c 15 260 [.t 14],.o 5 (.mvs 15)] (.seq (.r [.M 16 5,.N 17 16,.C 18 .gtr 17 8] (.i 18 (.v [.o 19 (.mkst zG []),.n (.stn 2 0 4 (.t 19) zT),.I 3 3]))) (.r [.M 20 5,.c 21 120 [.c (.str [109,117,108]),.t 20],.T 6,.S 6 0 4 21] (.seq (.r [.M 22 5,.N 23 22,.C 24 .eql 23 0] (.i 24 (.q [.c 25 120 [.c (.str [111,110,101]),.c (.sl true 4 [])],.S 6 0 4 25]))) (.seq (.r [.M 26 5,.N 27 26,.C 28 .eql 27 1] (.i 28 (.q [.M 29 5,.o 30 (.idxa 4 (.t 29) (.i 0)),.DT 31 30 4,.S 6 0 4 31]))) (.seq (.r [.L 32 6 0 4,.c 33 54 [.t 32],.M 7 33] (.r [.M 34 7,.C 35 .neq 34 0] (.i 35 (.v [.o 36 (.mkst zG []),.M 37 7,.n (.stn 2 0 4 (.t 36) zT),.M 3 37])))) (.v [.L 38 6 0 4,.S 2 0 4 38,.I 3 0]))))))))
def f258:Qk:=⟨1,39,[.cell 2 4 true,.tmp 3],f258C,false⟩
@[simp] theorem f258B:f258.body=f258C∧f258.res=[.cell 2 4 true,.tmp 3]∧f258.keep=false:=⟨rfl,rfl,rfl⟩
def f259l0:AC:= .seq (.r [.M 8 3,.M 9 0,.N 10 9,.B 11 .lss 8 10] (.x 11 0)) (.seq (.block 1 (.seq (.r [.M 14 0,.M 15 3,.X 16 5 14 15,.o 17 (.fadr 16 0),.DT 18 17 4,.c 19 54 [.t 18],.M 4 19] (.r [.M 20 4,.C 21 .neq 20 0] (.i 21 (.v [.M 22 4,.M 2 22])))) (.seq (.r [.M 23 0,.M 24 3,.X 25 5 23 24,.o 26 (.fadr 25 0),.DT 27 26 4,.c 28 255 [.t 27]] (.i 28 (.v [.I 2 1]))) (.seq (.r [.M 29 0,.M 30 3,.X 31 5 29 30,.o 32 (.fadr 31 4),.DF 33 32 1,.C 34 .eql 33 0,.M 35 34,.g 36 (.m 0) 35 false,.g 37 (.m 3) 35 false,.g 38 (.idxa 5 (.t 36) (.t 37)) 35 false,.g 39 (.fadr 38 4) 35 false,.g 40 (.ld 39 1 false) 35 false,.g 41 (.bin .lss (.t 40) (.i (-1000))) 35 false,.Q 42 35 41,.M 43 42,.g 44 (.m 0) 43 false,.g 45 (.m 3) 43 false,.g 46 (.idxa 5 (.t 44) (.t 45)) 43 false,.g 47 (.fadr 46 4) 43 false,.g 48 (.ld 47 1 false) 43 false,.g 49 (.bin .gtr (.t 48) (.i 1000)) 43 false,.Q 50 43 49] (.i 50 (.v [.I 2 7]))) (.seq (.z [.M 51 3,.C 52 .gtr 51 0,.M 53 52,.g 54 (.m 0) 53 true,.g 55 (.m 3) 53 true,.g 56 (.bin .sub (.t 55) (.i 1)) 53 true,.g 57 (.idxa 5 (.t 54) (.t 56)) 53 true,.g 58 (.fadr 57 0) 53 true,.g 59 (.ld 58 4 true) 53 true,.g 60 (.m 0) 53 true,.g 61 (.m 3) 53 true,.g 62 (.idxa 5 (.t 60) (.t 61)) 53 true,.g 63 (.fadr 62 0) 53 true,.g 64 (.ld 63 4 true) 53 true,.g 65 (.call 90 [.t 59,.t 64]) 53 true,.g 66 (.bin .geq (.t 65) (.i 0)) 53 true,.P 67 53 66]) (.i 67 (.v [.I 2 5]))))))) (.q [.M 12 3,.C 13 .add 12 1,.M 3 13]))
def f259r0:AC:= .v [.I 2 0]
def f259C:AC:= .r [.I 2 0] (.seq (.r [.M 5 0,.N 6 5,.C 7 .gtr 6 200] (.i 7 (.v [.I 2 3]))) (.seq (.r [.I 3 0] (.block 0 (.loop (f259l0)))) (f259r0)))
def f259:Qk:=⟨1,68,[.tmp 2],f259C,false⟩
@[simp] theorem f259B:f259.body=f259C∧f259.res=[.tmp 2]∧f259.keep=false:=⟨rfl,rfl,rfl⟩
def f260l0:AC:= .seq (.r [.M 14 5,.M 15 0,.M 16 4,.X 17 5 15 16,.o 18 (.fadr 17 4),.DF 19 18 1,.B 20 .lss 14 19,.M 21 20,.g 22 (.m 3) 21 true,.g 23 (.lenl (.t 22)) 21 true,.g 24 (.bin .lss (.t 23) (.i 9)) 21 true,.P 25 21 24] (.x 25 2)) (.seq (.block 3 (.q [.o 28 (.mvs 3),.M 29 0,.M 30 4,.X 31 5 29 30,.o 32 (.fadr 31 0),.DT 33 32 4,.o 34 (.mksl 4 [.t 33]),.A 35 56 4 28 34,.o 3 (.mvs 35)])) (.q [.M 26 5,.C 27 .add 26 1,.M 5 27]))
def f260r0:AC:= .q [.M 12 4,.C 13 .add 12 1,.M 4 13]
def f260l1:AC:= .seq (.r [.M 8 4,.M 9 0,.N 10 9,.B 11 .lss 8 10] (.x 11 0)) (.seq (.block 1 (.r [.I 5 0] (.block 2 (.loop (f260l0))))) (f260r0))
def f260l2:AC:= .seq (.r [.M 42 7,.M 43 0,.M 44 6,.X 45 5 43 44,.o 46 (.fadr 45 4),.DF 47 46 1,.o 48 (.un .neg (.t 47)),.B 49 .lss 42 48,.M 50 49,.g 51 (.m 3) 50 true,.g 52 (.lenl (.t 51)) 50 true,.g 53 (.bin .lss (.t 52) (.i 9)) 50 true,.P 54 50 53] (.x 54 6)) (.seq (.block 7 (.q [.o 57 (.mvs 3),.M 58 0,.M 59 6,.X 60 5 58 59,.o 61 (.fadr 60 0),.DT 62 61 4,.o 63 (.mksl 4 [.t 62]),.c 64 120 [.c (.str [105,110,118]),.t 63],.o 65 (.mksl 4 [.t 64]),.A 66 56 4 57 65,.o 3 (.mvs 66)])) (.q [.M 55 7,.C 56 .add 55 1,.M 7 56]))
def f260r1:AC:= .q [.M 40 6,.C 41 .add 40 1,.M 6 41]
def f260l3:AC:= .seq (.r [.M 36 6,.M 37 0,.N 38 37,.B 39 .lss 36 38] (.x 39 4)) (.seq (.block 5 (.r [.I 7 0] (.block 6 (.loop (f260l2))))) (f260r1))
def f260r2:AC:= .v [.M 67 3,.o 2 (.mvs 67)]
def f260r3:AC:= .seq (.r [.I 6 0] (.block 4 (.loop (f260l3)))) (f260r2)
def f260C:AC:= .r [.Z 2 4] (.r [.Z 3 4] (.seq (.r [.I 4 0] (.block 0 (.loop (f260l1)))) (f260r3)))
def f260:Qk:=⟨1,68,[.tmp 2],f260C,false⟩
@[simp] theorem f260B:f260.body=f260C∧f260.res=[.tmp 2]∧f260.keep=false:=⟨rfl,rfl,rfl⟩
def f261C:AC:= .r [.b 2 0,.b 3 1,.T 4,.I 5 0] (.r [.L 12 3 0 4,.c 13 253 [.t 12],.M 11 13,.E 14 11 0,.E 15 11 1,.o 6 (.mvs 14),.M 7 15] (.seq (.r [.M 16 7,.C 17 .neq 16 0] (.i 17 (.v [.o 18 (.mkst zG []),.M 19 7,.n (.stn 4 0 4 (.t 18) zT),.M 5 19]))) (.seq (.r [.L 20 2 0 4,.c 21 132 [.t 20,.c (.str [101,120,112])]] (.i 21 (.r [.F 23 2 3,.l 24 2 3 1,.o 25 (.idxa 4 (.t 24) (.i 1)),.DT 26 25 4,.c 27 253 [.t 26],.M 22 27,.E 28 22 0,.E 29 22 1,.o 8 (.mvs 28),.M 9 29] (.seq (.r [.M 30 9,.C 31 .neq 30 0] (.i 31 (.v [.o 32 (.mkst zG []),.M 33 9,.n (.stn 4 0 4 (.t 32) zT),.M 5 33]))) (.seq (.r [.M 35 8,.M 36 6,.c 37 262 [.t 35,.t 36],.M 34 37,.E 38 34 0,.E 39 34 1,.o 6 (.mvs 38),.M 9 39] (.r [.M 40 9,.C 41 .neq 40 0] (.i 41 (.v [.o 42 (.mkst zG []),.M 43 9,.n (.stn 4 0 4 (.t 42) zT),.M 5 43])))) (.q [.F 44 2 3,.l 45 2 3 1,.o 46 (.idxa 4 (.t 45) (.i 0)),.DT 47 46 4,.S 2 0 4 47])))))) (.seq (.r [.M 48 6,.N 49 48,.C 50 .eql 49 0] (.i 50 (.v [.L 51 2 0 4,.S 4 0 4 51,.I 5 0]))) (.r [.M 53 6,.c 54 258 [.t 53],.M 52 54,.E 55 52 0,.E 56 52 1,.T 10,.S 10 0 4 55,.M 7 56] (.seq (.r [.M 57 7,.C 58 .neq 57 0] (.i 58 (.v [.o 59 (.mkst zG []),.M 60 7,.n (.stn 4 0 4 (.t 59) zT),.M 5 60]))) (.v [.L 61 2 0 4,.L 62 10 0 4,.o 63 (.mksl 4 [.t 61,.t 62]),.c 64 120 [.c (.str [101,120,112]),.t 63],.S 4 0 4 64,.I 5 0])))))))
def f261:Qk:=⟨2,65,[.cell 4 4 true,.tmp 5],f261C,false⟩
@[simp] theorem f261B:f261.body=f261C∧f261.res=[.cell 4 4 true,.tmp 5]∧f261.keep=false:=⟨rfl,rfl,rfl⟩
def f262l0:AC:= .seq (.r [.M 24 9,.M 25 1,.N 26 25,.B 27 .lss 24 26] (.x 27 0)) (.seq (.block 1 (.z [.M 30 8,.M 31 1,.M 32 9,.X 33 5 31 32,.o 34 (.fadr 33 0),.DT 35 34 4,.M 36 1,.M 37 9,.X 38 5 36 37,.o 39 (.fadr 38 4),.DF 40 39 1,.c 41 257 [.t 30,.t 35,.t 40],.o 8 (.mvs 41)])) (.q [.M 28 9,.C 29 .add 28 1,.M 9 29]))
def f262r0:AC:= .seq (.r [.M 42 8,.c 43 263 [.t 42],.M 10 43] (.r [.M 44 10,.C 45 .neq 44 0] (.i 45 (.v [.M 46 10,.Z 4 5,.M 5 46])))) (.v [.M 47 8,.o 4 (.mvs 47),.I 5 0])
def f262C:AC:= .r [.Z 4 5,.I 5 0] (.seq (.r [.M 11 0,.c 12 259 [.t 11],.M 6 12] (.r [.M 13 6,.C 14 .neq 13 0] (.i 14 (.v [.M 15 6,.Z 4 5,.M 5 15])))) (.seq (.r [.M 16 1,.c 17 259 [.t 16],.M 7 17] (.r [.M 18 7,.C 19 .neq 18 0] (.i 19 (.v [.M 20 7,.Z 4 5,.M 5 20])))) (.r [.o 21 (.mksl 5 []),.M 22 0,.A 23 64 5 21 22,.o 8 (.mvs 23)] (.seq (.r [.I 9 0] (.block 0 (.loop (f262l0)))) (f262r0)))))
def f262:Qk:=⟨2,48,[.tmp 4,.tmp 5],f262C,false⟩
@[simp] theorem f262B:f262.body=f262C∧f262.res=[.tmp 4,.tmp 5]∧f262.keep=false:=⟨rfl,rfl,rfl⟩
def f263l0:AC:= .seq (.r [.M 4 3,.M 5 0,.N 6 5,.B 7 .lss 4 6] (.x 7 0)) (.seq (.block 1 (.r [.M 10 0,.M 11 3,.X 12 5 10 11,.o 13 (.fadr 12 4),.DF 14 13 1,.C 15 .lss 14 (-1000),.M 16 15,.g 17 (.m 0) 16 false,.g 18 (.m 3) 16 false,.g 19 (.idxa 5 (.t 17) (.t 18)) 16 false,.g 20 (.fadr 19 4) 16 false,.g 21 (.ld 20 1 false) 16 false,.g 22 (.bin .gtr (.t 21) (.i 1000)) 16 false,.Q 23 16 22] (.i 23 (.v [.I 2 7])))) (.q [.M 8 3,.C 9 .add 8 1,.M 3 9]))
def f263r0:AC:= .seq (.r [.M 24 0,.N 25 24,.C 26 .gtr 25 200] (.i 26 (.v [.I 2 3]))) (.v [.I 2 0])
def f263C:AC:= .r [.I 2 0] (.seq (.r [.I 3 0] (.block 0 (.loop (f263l0)))) (f263r0))
def f263:Qk:=⟨1,27,[.tmp 2],f263C,false⟩
@[simp] theorem f263B:f263.body=f263C∧f263.res=[.tmp 2]∧f263.keep=false:=⟨rfl,rfl,rfl⟩
def f264l0:AC:= .seq (.r [.M 9 5,.M 10 4,.N 11 10,.B 12 .lss 9 11] (.x 12 0)) (.seq (.block 1 (.seq (.z [.M 15 4,.M 16 5,.X 17 4 15 16,.o 18 (.fadr 17 0),.DF 19 18 1,.C 20 .eql 19 2,.M 21 20,.g 22 (.m 4) 21 true,.g 23 (.m 5) 21 true,.g 24 (.idxa 4 (.t 22) (.t 23)) 21 true,.g 25 (.ld 24 4 true) 21 true,.g 26 (.call 231 [.t 25]) 21 true,.g 27 (.un .not (.t 26)) 21 true,.P 28 21 27,.M 29 28,.g 30 (.fad 1 0) 29 true,.g 31 (.ldf 1 0 1 false) 29 true,.g 32 (.m 4) 29 true,.g 33 (.m 5) 29 true,.g 34 (.idxa 4 (.t 32) (.t 33)) 29 true,.g 35 (.ld 34 4 true) 29 true,.g 36 (.call 250 [.t 31,.t 35]) 29 true,.g 37 (.un .not (.t 36)) 29 true,.P 38 29 37]) (.i 38 (.q [.o 39 (.mvs 3),.M 40 4,.M 41 5,.X 42 4 40 41,.DT 43 42 4,.o 44 (.mksl 4 [.t 43]),.A 45 56 4 39 44,.o 3 (.mvs 45)])))) (.q [.M 13 5,.C 14 .add 13 1,.M 5 14]))
def f264r0:AC:= .v [.M 46 3,.o 2 (.mvs 46)]
def f264C:AC:= .r [.b 1 0,.Z 2 4] (.r [.Z 3 4] (.r [.F 6 1 1,.l 7 1 1 1,.c 8 265 [.t 7],.o 4 (.mvs 8)] (.seq (.r [.I 5 0] (.block 0 (.loop (f264l0)))) (f264r0))))
def f264:Qk:=⟨1,47,[.tmp 2],f264C,false⟩
@[simp] theorem f264B:f264.body=f264C∧f264.res=[.tmp 2]∧f264.keep=false:=⟨rfl,rfl,rfl⟩
def f265l0:AC:= .seq (.r [.M 5 4,.M 6 0,.N 7 6,.B 8 .lss 5 7] (.x 8 0)) (.seq (.block 1 (.q [.o 11 (.mvs 3),.M 12 0,.M 13 4,.X 14 4 12 13,.DT 15 14 4,.c 16 237 [.t 15],.A 17 56 4 11 16,.o 3 (.mvs 17)])) (.q [.M 9 4,.C 10 .add 9 1,.M 4 10]))
def f265r0:AC:= .v [.M 18 3,.c 19 238 [.t 18],.o 2 (.mvs 19)]
def f265C:AC:= .r [.Z 2 4] (.r [.Z 3 4] (.seq (.r [.I 4 0] (.block 0 (.loop (f265l0)))) (f265r0)))
def f265:Qk:=⟨1,20,[.tmp 2],f265C,false⟩
@[simp] theorem f265B:f265.body=f265C∧f265.res=[.tmp 2]∧f265.keep=false:=⟨rfl,rfl,rfl⟩
def f267C:AC:= .r [.b 2 0,.b 3 1,.T 4,.I 5 0] (.seq (.r [.L 9 2 0 2,.L 10 3 0 4,.c 11 268 [.t 9,.t 10],.M 6 11] (.r [.M 12 6,.C 13 .neq 12 0] (.i 13 (.v [.o 14 (.mkst zG []),.M 15 6,.n (.stn 4 0 4 (.t 14) zT),.M 5 15])))) (.seq (.z [.L 17 2 0 2,.c 18 269 [.t 17],.L 19 3 0 4,.c 20 274 [.t 18,.t 19],.c 21 241 [.t 20],.M 16 21,.E 22 16 0,.E 23 16 1,.T 7,.S 7 0 4 22,.M 8 23]) (.seq (.r [.M 24 8,.C 25 .neq 24 0] (.i 25 (.v [.o 26 (.mkst zG []),.M 27 8,.n (.stn 4 0 4 (.t 26) zT),.M 5 27]))) (.seq (.r [.L 28 7 0 4,.c 29 275 [.t 28]] (.i 29 (.v [.o 30 (.mkst zG []),.n (.stn 4 0 4 (.t 30) zT),.I 5 11]))) (.v [.L 31 7 0 4,.S 4 0 4 31,.I 5 0])))))
def f267:Qk:=⟨2,32,[.cell 4 4 true,.tmp 5],f267C,false⟩
@[simp] theorem f267B:f267.body=f267C∧f267.res=[.cell 4 4 true,.tmp 5]∧f267.keep=false:=⟨rfl,rfl,rfl⟩
def f268l0:AC:= .seq (.r [.M 27 10,.M 28 7,.N 29 28,.B 30 .lss 27 29] (.x 30 0)) (.seq (.block 1 (.r [.M 33 7,.M 34 10,.X 35 4 33 34,.o 36 (.fadr 35 0),.DF 37 36 1] (.block 2 (.r [.C 54 .eql 37 3,.M 53 54] (.cond (.t 53) (.r [.M 55 7,.M 56 10,.X 57 4 55 56,.o 58 (.fadr 57 1),.DF 59 58 1,.c 60 128 [.t 59],.C 61 .eql 60 2] (.i 61 (.v [.I 4 10]))) (.r [.C 63 .eql 37 1,.M 62 63] (.cond (.t 62) (.seq (.z [.M 64 9,.M 65 7,.M 66 10,.X 67 4 65 66,.DT 68 67 4,.c 69 273 [.t 64,.t 68],.M 70 7,.M 71 10,.X 72 4 70 71,.DT 73 72 4,.c 74 89 [.t 69,.t 73]]) (.i 74 (.v [.I 4 13]))) (.r [.M 38 7,.M 39 10,.X 40 4 38 39,.DT 41 40 4,.c 42 231 [.t 41],.o 43 (.un .not (.t 42)),.M 44 43,.g 45 (.m 8) 44 true,.g 46 (.m 7) 44 true,.g 47 (.m 10) 44 true,.g 48 (.idxa 4 (.t 46) (.t 47)) 44 true,.g 49 (.ld 48 4 true) 44 true,.g 50 (.call 250 [.t 45,.t 49]) 44 true,.g 51 (.un .not (.t 50)) 44 true,.P 52 44 51] (.i 52 (.v [.I 4 13])))))))))) (.q [.M 31 10,.C 32 .add 31 1,.M 10 32]))
def f268r0:AC:= .v [.I 4 0]
def f268C:AC:= .r [.b 2 0,.b 3 1,.I 4 0] (.seq (.r [.L 11 2 0 2,.c 12 230 [.t 11],.M 5 12] (.r [.M 13 5,.C 14 .neq 13 0] (.i 14 (.v [.M 15 5,.M 4 15])))) (.seq (.r [.L 16 3 0 4,.c 17 126 [.t 16],.M 6 17] (.r [.M 18 6,.C 19 .neq 18 0] (.i 19 (.v [.M 20 6,.M 4 20])))) (.r [.L 21 3 0 4,.c 22 237 [.t 21],.o 7 (.mvs 22)] (.seq (.z [.L 23 2 0 2,.c 24 264 [.t 23],.L 25 2 0 2,.c 26 269 [.t 25],.o 8 (.mvs 24),.o 9 (.mvs 26)]) (.seq (.r [.I 10 0] (.block 0 (.loop (f268l0)))) (f268r0))))))
def f268:Qk:=⟨2,75,[.tmp 4],f268C,false⟩
@[simp] theorem f268B:f268.body=f268C∧f268.res=[.tmp 4]∧f268.keep=false:=⟨rfl,rfl,rfl⟩
def f269l0:AC:= .seq (.r [.M 5 4,.F 6 1 1,.l 7 1 1 1,.N 8 7,.B 9 .lss 5 8] (.x 9 0)) (.seq (.block 1 (.z [.o 12 (.mvs 3),.M 13 4,.c 14 270 [.t 13],.F 15 1 1,.l 16 1 1 1,.M 17 4,.X 18 4 16 17,.DT 19 18 4,.o 20 (.mkst [.int .i64 0,.str [],.int .i64 0,.sl true 4 [],.int .i64 0,.str [],.int .i64 0,.sl true 4 []] [(0,4,.t 14),(4,4,.t 19)]),.o 21 (.mksl 8 [.t 20]),.A 22 112 8 12 21,.o 3 (.mvs 22)])) (.q [.M 10 4,.C 11 .add 10 1,.M 4 11]))
def f269r0:AC:= .v [.M 23 3,.o 2 (.mvs 23)]
def f269C:AC:= .r [.b 1 0,.Z 2 8] (.r [.Z 3 8] (.seq (.r [.I 4 0] (.block 0 (.loop (f269l0)))) (f269r0)))
def f269:Qk:=⟨1,24,[.tmp 2],f269C,false⟩
@[simp] theorem f269B:f269.body=f269C∧f269.res=[.tmp 2]∧f269.keep=false:=⟨rfl,rfl,rfl⟩
def f270C:AC:= .r [.T 2] (.v [.M 3 0,.c 4 271 [.t 3],.o 5 (.bin .add (.c (.str [119])) (.t 4)),.c 6 272 [.t 5,.i 0],.S 2 0 4 6])
def f270:Qk:=⟨1,7,[.cell 2 4 true],f270C,false⟩
@[simp] theorem f270B:f270.body=f270C∧f270.res=[.cell 2 4 true]∧f270.keep=false:=⟨rfl,rfl,rfl⟩
def f271C:AC:= .r [.o 2 (.mov (.c (.str [])))] (.seq (.r [.M 3 0,.C 4 .lss 3 10] (.i 4 (.v [.M 5 0,.M 6 0,.C 7 .add 6 1,.o 8 (.slcs (.c (.str [48,49,50,51,52,53,54,55,56,57])) (some (.t 5)) (some (.t 7))),.M 2 8]))) (.v [.M 9 0,.C 10 .quo 9 10,.c 11 271 [.t 10],.M 12 0,.C 13 .rem 12 10,.c 14 271 [.t 13],.B 15 .add 11 14,.M 2 15]))
def f271:Qk:=⟨1,16,[.tmp 2],f271C,false⟩
def f272C:AC:= .r [.T 4] (.v [.M 5 0,.M 6 1,.o 7 (.mkst zG [(0,1,.i 1),(1,1,.t 5),(2,1,.t 6)]),.n (.stn 4 0 4 (.t 7) zT)])
def f272:Qk:=⟨2,8,[.cell 4 4 true],f272C,false⟩
def f273l0:AC:= .seq (.r [.M 6 5,.M 7 0,.N 8 7,.B 9 .lss 6 8] (.x 9 0)) (.seq (.block 1 (.seq (.z [.M 12 0,.M 13 5,.X 14 8 12 13,.o 15 (.fadr 14 0),.DT 16 15 4,.L 17 3 0 4,.c 18 89 [.t 16,.t 17]]) (.i 18 (.v [.M 19 0,.M 20 5,.X 21 8 19 20,.o 22 (.fadr 21 4),.DT 23 22 4,.S 4 0 4 23])))) (.q [.M 10 5,.C 11 .add 10 1,.M 5 11]))
def f273r0:AC:= .v [.L 24 3 0 4,.S 4 0 4 24]
def f273C:AC:= .r [.b 3 1,.T 4] (.seq (.r [.I 5 0] (.block 0 (.loop (f273l0)))) (f273r0))
def f273:Qk:=⟨2,25,[.cell 4 4 true],f273C,false⟩
@[simp] theorem f273B:f273.body=f273C∧f273.res=[.cell 4 4 true]∧f273.keep=false:=⟨rfl,rfl,rfl⟩
def f274l0:AC:= .seq (.r [.M 15 6,.F 16 3 3,.l 17 3 3 1,.N 18 17,.B 19 .lss 15 18] (.x 19 0)) (.seq (.block 1 (.z [.F 22 5 3,.o 23 (.ldfm 5 3),.M 24 0,.F 25 3 3,.l 26 3 3 1,.M 27 6,.X 28 4 26 27,.DT 29 28 4,.c 30 274 [.t 24,.t 29],.o 31 (.mksl 4 [.t 30]),.A 32 56 4 23 31,.F 33 5 3,.n (.stfm 5 3 32)])) (.q [.M 20 6,.C 21 .add 20 1,.M 6 21]))
def f274r0:AC:= .v [.L 34 5 0 4,.S 4 0 4 34]
def f274C:AC:= .r [.b 3 1,.T 4] (.seq (.r [.F 7 3 0,.l 8 3 0 1,.C 9 .eql 8 1] (.i 9 (.v [.M 10 0,.L 11 3 0 4,.c 12 273 [.t 10,.t 11],.S 4 0 4 12]))) (.r [.L 13 3 0 4,.T 5,.S 5 0 4 13] (.r [.F 14 5 3,.n (.stf 5 3 1 (.c (.sl true 4 [])))] (.seq (.r [.I 6 0] (.block 0 (.loop (f274l0)))) (f274r0)))))
def f274:Qk:=⟨2,35,[.cell 4 4 true],f274C,false⟩
@[simp] theorem f274B:f274.body=f274C∧f274.res=[.cell 4 4 true]∧f274.keep=false:=⟨rfl,rfl,rfl⟩
def f275l0:AC:= .seq (.r [.M 7 4,.M 8 3,.N 9 8,.B 10 .lss 7 9] (.x 10 0)) (.seq (.block 1 (.r [.M 13 3,.M 14 4,.X 15 4 13 14,.o 16 (.fadr 15 0),.DF 17 16 1,.C 18 .eql 17 3,.M 19 18,.g 20 (.m 3) 19 true,.g 21 (.m 4) 19 true,.g 22 (.idxa 4 (.t 20) (.t 21)) 19 true,.g 23 (.fadr 22 1) 19 true,.g 24 (.ld 23 1 false) 19 true,.g 25 (.call 128 [.t 24]) 19 true,.g 26 (.bin .eql (.t 25) (.i 3)) 19 true,.P 27 19 26] (.i 27 (.v [.f 2 true])))) (.q [.M 11 4,.C 12 .add 11 1,.M 4 12]))
def f275r0:AC:= .v [.f 2 false]
def f275C:AC:= .r [.b 1 0,.f 2 false] (.r [.L 5 1 0 4,.c 6 237 [.t 5],.o 3 (.mvs 6)] (.seq (.r [.I 4 0] (.block 0 (.loop (f275l0)))) (f275r0)))
def f275:Qk:=⟨1,28,[.tmp 2],f275C,false⟩
@[simp] theorem f275B:f275.body=f275C∧f275.res=[.tmp 2]∧f275.keep=false:=⟨rfl,rfl,rfl⟩
def f304C:AC:= .r [.b 1 0,.T 2,.I 3 0] (.seq (.r [.L 5 1 0 4,.c 6 126 [.t 5],.M 4 6] (.r [.M 7 4,.C 8 .neq 7 0] (.i 8 (.v [.o 9 (.mkst zG []),.M 10 4,.n (.stn 2 0 4 (.t 9) zT),.M 3 10])))) (.seq (.r [.L 11 1 0 4,.c 12 132 [.t 11,.c (.str [101,110,99])]] (.i 12 (.v [.F 13 1 3,.l 14 1 3 1,.o 15 (.idxa 4 (.t 14) (.i 1)),.DT 16 15 4,.S 2 0 4 16,.I 3 0]))) (.seq (.r [.L 17 1 0 4,.c 18 132 [.t 17,.c (.str [97,101,110,99])],.o 19 (.un .not (.t 18))] (.i 19 (.v [.o 20 (.mkst zG []),.n (.stn 2 0 4 (.t 20) zT),.I 3 10]))) (.seq (.r [.F 21 1 3,.l 22 1 3 1,.o 23 (.idxa 4 (.t 22) (.i 1)),.DT 24 23 4,.c 25 132 [.t 24,.c (.str [112,107])],.o 26 (.un .not (.t 25))] (.i 26 (.v [.o 27 (.mkst zG []),.n (.stn 2 0 4 (.t 27) zT),.I 3 4]))) (.v [.F 28 1 3,.l 29 1 3 1,.o 30 (.idxa 4 (.t 29) (.i 1)),.o 31 (.fadr 30 3),.DF 32 31 1,.o 33 (.idxa 4 (.t 32) (.i 0)),.DT 34 33 4,.S 2 0 4 34,.I 3 0])))))
def f304:Qk:=⟨1,35,[.cell 2 4 true,.tmp 3],f304C,false⟩
@[simp] theorem f304B:f304.body=f304C∧f304.res=[.cell 2 4 true,.tmp 3]∧f304.keep=false:=⟨rfl,rfl,rfl⟩
def f398C:AC:= .r [.f 0 false] (.r [.o 15 (.mksl 1 [.c (.str [101,110,99,40,110,58,110,111,110,99,101,44,32,107,58,107,101,121,41])]),.c 16 399 [.t 15],.o 17 (.mksl 1 [.c (.str [101,110,99,40,109,58,110,111,110,99,101,44,32,107,58,107,101,121,41])]),.c 18 399 [.t 17],.c 19 400 [.t 16,.t 18],.M 14 19,.E 20 14 0,.E 21 14 1,.M 1 20,.M 2 21] (.r [.o 22 (.mksl 1 [.c (.str [101,110,99,40,110,58,110,111,110,99,101,44,32,107,58,107,101,121,41]),.c (.str [107,58,107,101,121]),.c (.str [110,58,110,111,110,99,101])]),.c 23 399 [.t 22],.o 24 (.mksl 1 [.c (.str [101,110,99,40,109,58,110,111,110,99,101,44,32,107,58,107,101,121,41]),.c (.str [107,58,107,101,121]),.c (.str [110,58,110,111,110,99,101])]),.c 25 399 [.t 24],.o 3 (.alloc [.sl true 4 [],.sl true 4 []]),.o 4 (.alloc [.sl true 4 [],.sl true 4 []]),.S 3 0 2 23,.S 4 0 2 25] (.r [.L 27 3 0 2,.L 28 4 0 2,.c 29 401 [.t 27,.t 28],.M 26 29,.E 30 26 0,.E 31 26 1,.o 5 (.alloc [.int .i64 0,.str [],.int .i64 0,.sl true 4 [],.int .i64 0,.str [],.int .i64 0,.sl true 4 [],.bool false]),.S 5 0 9 30,.M 6 31] (.r [.c 32 107 [.c (.str [110]),.i 2],.T 7,.S 7 0 4 32] (.seq (.z [.o 34 (.mksl 1 [.c (.str [104,97,115,104,40,110,58,110,111,110,99,101,41])]),.c 35 399 [.t 34],.L 36 7 0 4,.c 37 433 [.t 35,.t 36],.M 33 37,.E 38 33 0,.E 39 33 1,.o 8 (.alloc [.int .i64 0,.str [],.int .i64 0,.sl true 4 [],.int .i64 0,.str [],.int .i64 0,.sl true 4 [],.bool false]),.S 8 0 9 38,.M 9 39]) (.seq (.z [.o 41 (.mksl 1 [.c (.str [104,97,115,104,40,112,97,105,114,40,110,58,110,111,110,99,101,44,32,109,58,110,111,110,99,101,41,41])]),.c 42 399 [.t 41],.L 43 7 0 4,.c 44 433 [.t 42,.t 43],.M 40 44,.E 45 40 0,.E 46 40 1,.o 10 (.alloc [.int .i64 0,.str [],.int .i64 0,.sl true 4 [],.int .i64 0,.str [],.int .i64 0,.sl true 4 [],.bool false]),.S 10 0 9 45,.M 11 46]) (.seq (.z [.o 48 (.mksl 1 [.c (.str [101,110,99,40,109,58,110,111,110,99,101,44,32,110,58,110,111,110,99,101,41])]),.c 49 399 [.t 48],.L 50 7 0 4,.c 51 433 [.t 49,.t 50],.M 47 51,.E 52 47 0,.E 53 47 1,.o 12 (.alloc [.int .i64 0,.str [],.int .i64 0,.sl true 4 [],.int .i64 0,.str [],.int .i64 0,.sl true 4 [],.bool false]),.S 12 0 9 52,.M 13 53]) (.v [.M 54 1,.M 55 54,.g 56 (.m 2) 55 true,.g 57 (.bin .eql (.t 56) (.i 0)) 55 true,.P 58 55 57,.M 59 58,.g 60 (.m 6) 59 true,.g 61 (.bin .eql (.t 60) (.i 0)) 59 true,.P 62 59 61,.M 63 62,.g 64 (.ldf 3 0 2 true) 63 true,.g 65 (.ldf 4 0 2 true) 63 true,.g 66 (.ldf 5 0 9 true) 63 true,.g 67 (.call 438 [.t 64,.t 65,.t 66]) 63 true,.P 68 63 67,.M 69 68,.g 70 (.m 9) 69 true,.g 71 (.bin .eql (.t 70) (.i 0)) 69 true,.P 72 69 71,.M 73 72,.g 74 (.m 11) 73 true,.g 75 (.bin .eql (.t 74) (.i 15)) 73 true,.P 76 73 75,.M 77 76,.g 78 (.m 13) 77 true,.g 79 (.bin .eql (.t 78) (.i 0)) 77 true,.P 80 77 79,.M 0 80]))))))))
def f398:Qk:=⟨0,81,[.tmp 0],f398C,false⟩
def f399l0:AC:= .r [.B 16 .lss 15 14] (.seq (.x 16 0) (.seq (.block 1 (.r [.X 17 1 13 15,.DF 18 17 1,.M 5 18] (.r [.M 20 5,.c 21 153 [.t 20],.M 19 21,.E 22 19 0,.E 23 19 1,.T 6,.S 6 0 4 22,.M 7 23] (.q [.F 24 3 1,.o 25 (.ldfm 3 1),.L 26 6 0 4,.o 27 (.mksl 4 [.t 26]),.A 28 56 4 25 27,.F 29 3 1,.n (.stfm 3 1 28)])))) (.q [.C 30 .add 15 1,.M 15 30])))
def f399r0:AC:= .v [.L 31 3 0 2,.S 2 0 2 31]
def f399C:AC:= .r [.o 2 (.alloc [.sl true 4 [],.sl true 4 []])] (.r [.c 8 107 [.c (.str [107]),.i 3],.c 9 107 [.c (.str [109]),.i 2],.c 10 107 [.c (.str [110]),.i 2],.o 11 (.mksl 4 [.t 8,.t 9,.t 10]),.o 12 (.mkst [.sl true 4 [],.gs 0 0 0 0] [(0,1,.t 11)]),.o 3 (.alloc [.sl true 4 [],.sl true 4 []]),.n (.stn 3 0 2 (.t 12) [.sl true 4 [],.sl true 4 []])] (.seq (.r [.M 13 0,.N 14 13,.I 15 0] (.block 0 (.loop (f399l0)))) (f399r0)))
def f399:Qk:=⟨1,32,[.cell 2 2 true],f399C,false⟩
def f400C:AC:= .r [.b 2 0,.b 3 1,.f 4 false,.I 5 0] (.r [.L 9 2 0 2,.L 10 3 0 2,.c 11 401 [.t 9,.t 10],.M 8 11,.E 12 8 0,.E 13 8 1,.o 6 (.alloc [.int .i64 0,.str [],.int .i64 0,.sl true 4 [],.int .i64 0,.str [],.int .i64 0,.sl true 4 [],.bool false]),.S 6 0 9 12,.M 7 13] (.seq (.r [.M 14 7,.C 15 .neq 14 0,.M 16 15,.g 17 (.m 7) 16 true,.g 18 (.bin .neq (.t 17) (.i 15)) 16 true,.P 19 16 18] (.i 19 (.v [.M 20 7,.f 4 false,.M 5 20]))) (.v [.M 21 7,.C 22 .eql 21 15,.M 4 22,.I 5 0])))
def f400:Qk:=⟨2,23,[.tmp 4,.tmp 5],f400C,false⟩
@[simp] theorem f400B:f400.body=f400C∧f400.res=[.tmp 4,.tmp 5]∧f400.keep=false:=⟨rfl,rfl,rfl⟩
def f401l0:AC:= .r [.B 65 .lss 64 63] (.seq (.x 65 2) (.seq (.block 3 (.r [.X 66 9 62 64,.DT 67 66 9,.o 15 (.alloc [.int .i64 0,.str [],.int .i64 0,.sl true 4 [],.int .i64 0,.str [],.int .i64 0,.sl true 4 [],.bool false]),.S 15 0 9 67] (.r [.L 69 13 0 2,.L 70 15 0 9,.c 71 432 [.t 69,.t 70],.M 68 71,.E 72 68 0,.E 73 68 1,.M 16 72,.M 17 73] (.seq (.r [.M 74 17,.C 75 .neq 74 0] (.i 75 (.v [.o 76 (.mkst [.int .i64 0,.str [],.int .i64 0,.gs 0 0 0 0,.int .i64 0,.str [],.int .i64 0,.gs 0 0 0 0,.bool false] []),.M 77 17,.n (.stn 4 0 9 (.t 76) [.int .i64 0,.str [],.int .i64 0,.sl true 4 [],.int .i64 0,.str [],.int .i64 0,.sl true 4 [],.bool false]),.M 5 77]))) (.r [.M 78 16,.o 79 (.un .not (.t 78))] (.i 79 (.q [.o 80 (.mvs 10),.L 81 15 0 9,.o 82 (.mksl 9 [.t 81]),.A 83 120 9 80 82,.o 10 (.mvs 83)]))))))) (.q [.C 84 .add 64 1,.M 64 84])))
def f401r0:AC:= .q [.C 85 .add 51 1,.M 51 85]
def f401l1:AC:= .r [.B 52 .lss 51 50] (.seq (.x 52 0) (.seq (.block 1 (.r [.M 53 51,.X 54 1 49 51,.DF 55 54 1,.M 11 53,.o 12 (.mvs 55)] (.r [.L 56 3 0 2,.L 57 2 0 2,.o 58 (.mksl 2 [.t 56,.t 57]),.M 59 11,.X 60 2 58 59,.DT 61 60 2,.o 13 (.alloc [.sl true 4 [],.sl true 4 []]),.S 13 0 2 61] (.r [.M 62 12,.N 63 62,.I 64 0] (.block 2 (.loop (f401l0))))))) (f401r0)))
def f401r1:AC:= .seq (.r [.M 86 10,.N 87 86,.C 88 .gtr 87 0] (.i 88 (.v [.M 89 10,.o 90 (.idxa 9 (.t 89) (.i 0)),.DT 91 90 9,.S 4 0 9 91,.I 5 0]))) (.v [.o 92 (.mkst [.int .i64 0,.str [],.int .i64 0,.gs 0 0 0 0,.int .i64 0,.str [],.int .i64 0,.gs 0 0 0 0,.bool false] []),.n (.stn 4 0 9 (.t 92) [.int .i64 0,.str [],.int .i64 0,.sl true 4 [],.int .i64 0,.str [],.int .i64 0,.sl true 4 [],.bool false]),.I 5 15])
def f401C:AC:= .r [.b 2 0,.b 3 1,.o 4 (.alloc [.int .i64 0,.str [],.int .i64 0,.sl true 4 [],.int .i64 0,.str [],.int .i64 0,.sl true 4 [],.bool false]),.I 5 0] (.seq (.r [.L 18 2 0 2,.L 19 3 0 2,.c 20 402 [.t 18,.t 19],.M 6 20] (.r [.M 21 6,.C 22 .neq 21 0] (.i 22 (.v [.o 23 (.mkst [.int .i64 0,.str [],.int .i64 0,.gs 0 0 0 0,.int .i64 0,.str [],.int .i64 0,.gs 0 0 0 0,.bool false] []),.M 24 6,.n (.stn 4 0 9 (.t 23) [.int .i64 0,.str [],.int .i64 0,.sl true 4 [],.int .i64 0,.str [],.int .i64 0,.sl true 4 [],.bool false]),.M 5 24])))) (.r [.L 26 2 0 2,.L 27 3 0 2,.c 28 406 [.t 26,.t 27],.c 29 411 [.t 28],.M 25 29,.E 30 25 0,.E 31 25 1,.o 7 (.mvs 30),.M 8 31] (.seq (.r [.M 32 8,.C 33 .neq 32 0] (.i 33 (.v [.o 34 (.mkst [.int .i64 0,.str [],.int .i64 0,.gs 0 0 0 0,.int .i64 0,.str [],.int .i64 0,.gs 0 0 0 0,.bool false] []),.M 35 8,.n (.stn 4 0 9 (.t 34) [.int .i64 0,.str [],.int .i64 0,.sl true 4 [],.int .i64 0,.str [],.int .i64 0,.sl true 4 [],.bool false]),.M 5 35]))) (.r [.L 37 3 0 2,.L 38 2 0 2,.c 39 406 [.t 37,.t 38],.c 40 411 [.t 39],.M 36 40,.E 41 36 0,.E 42 36 1,.o 9 (.mvs 41),.M 8 42] (.seq (.r [.M 43 8,.C 44 .neq 43 0] (.i 44 (.v [.o 45 (.mkst [.int .i64 0,.str [],.int .i64 0,.gs 0 0 0 0,.int .i64 0,.str [],.int .i64 0,.gs 0 0 0 0,.bool false] []),.M 46 8,.n (.stn 4 0 9 (.t 45) [.int .i64 0,.str [],.int .i64 0,.sl true 4 [],.int .i64 0,.str [],.int .i64 0,.sl true 4 [],.bool false]),.M 5 46]))) (.r [.Z 10 9] (.seq (.r [.M 47 7,.M 48 9,.o 49 (.mksl 1 [.t 47,.t 48]),.N 50 49,.I 51 0] (.block 0 (.loop (f401l1)))) (f401r1))))))))
def f401:Qk:=⟨2,93,[.cell 4 9 true,.tmp 5],f401C,false⟩
@[simp] theorem f401B:f401.body=f401C∧f401.res=[.cell 4 9 true,.tmp 5]∧f401.keep=false:=⟨rfl,rfl,rfl⟩
def f402l0:AC:= .r [.B 13 .lss 12 11] (.seq (.x 13 0) (.seq (.block 1 (.r [.X 14 2 10 12,.DT 15 14 2,.o 6 (.alloc [.sl true 4 [],.sl true 4 []]),.S 6 0 2 15] (.r [.L 16 6 0 2,.c 17 158 [.t 16],.M 7 17] (.r [.M 18 7,.C 19 .neq 18 0] (.i 19 (.v [.M 20 7,.M 4 20])))))) (.q [.C 21 .add 12 1,.M 12 21])))
def f402r0:AC:= .seq (.block 2 (.r [.F 23 2 1,.l 24 2 1 1,.F 25 3 1,.l 26 3 1 1,.o 27 (.mksl 1 [.t 24,.t 26]),.c 28 180 [.t 27],.c 29 214 [.t 28,.c (.fn 403 [])],.M 22 29] (.cond (.t 22) (.v [.I 4 10]) (.r [.F 31 2 1,.l 32 2 1 1,.N 33 32,.F 34 3 1,.l 35 3 1 1,.N 36 35,.B 37 .neq 33 36,.M 30 37] (.i 30 (.v [.I 4 6])))))) (.v [.I 4 0])
def f402C:AC:= .r [.b 2 0,.b 3 1,.I 4 0] (.seq (.r [.L 8 2 0 2,.L 9 3 0 2,.o 10 (.mksl 2 [.t 8,.t 9]),.N 11 10,.I 12 0] (.block 0 (.loop (f402l0)))) (f402r0))
def f402:Qk:=⟨2,38,[.tmp 4],f402C,false⟩
@[simp] theorem f402B:f402.body=f402C∧f402.res=[.tmp 4]∧f402.keep=false:=⟨rfl,rfl,rfl⟩
def f403C:AC:= .r [.b 1 0,.f 2 false] (.v [.L 3 1 0 4,.c 4 404 [.t 3],.o 5 (.un .not (.t 4)),.M 2 5])
def f403:Qk:=⟨1,6,[.tmp 2],f403C,false⟩
@[simp] theorem f403B:f403.body=f403C∧f403.res=[.tmp 2]∧f403.keep=false:=⟨rfl,rfl,rfl⟩
def f404C:AC:= .r [.b 1 0,.f 2 false] (.v [.L 3 1 0 4,.c 4 41 [.t 3],.C 5 .eql 4 0,.M 6 5,.g 7 (.ldf 1 0 4 true) 6 true,.g 8 (.call 207 [.t 7,.c (.fn 405 [])]) 6 true,.P 9 6 8,.M 2 9])
def f404:Qk:=⟨1,10,[.tmp 2],f404C,false⟩
@[simp] theorem f404B:f404.body=f404C∧f404.res=[.tmp 2]∧f404.keep=false:=⟨rfl,rfl,rfl⟩
def f405C:AC:= .r [.f 2 false] (.seq (.r [.M 3 0] (.block 0 (.seq (.r [.o 5 (.bin .eql (.t 3) (.c (.str [120,111,114]))),.M 4 5] (.cond (.t 4) (.skip) (.r [.o 6 (.bin .eql (.t 3) (.c (.str [122,101,114,111]))),.M 4 6] (.cond (.t 4) (.skip) (.r [.o 7 (.bin .eql (.t 3) (.c (.str [101,120,112]))),.M 4 7] (.cond (.t 4) (.skip) (.r [.o 8 (.bin .eql (.t 3) (.c (.str [109,117,108]))),.M 4 8] (.cond (.t 4) (.skip) (.r [.o 9 (.bin .eql (.t 3) (.c (.str [105,110,118]))),.M 4 9] (.cond (.t 4) (.skip) (.q [.o 10 (.bin .eql (.t 3) (.c (.str [111,110,101]))),.M 4 10]))))))))))) (.i 4 (.v [.f 2 false]))))) (.v [.M 11 0,.c 12 43 [.t 11],.o 13 (.fld 3 1 false (.t 12)),.C 14 .neq 13 3,.M 2 14]))
def f405:Qk:=⟨1,15,[.tmp 2],f405C,false⟩
@[simp] theorem f405B:f405.body=f405C∧f405.res=[.tmp 2]∧f405.keep=false:=⟨rfl,rfl,rfl⟩
def f406l0:AC:= .r [.B 18 .lss 17 16] (.seq (.x 18 0) (.seq (.block 1 (.r [.X 19 4 15 17,.DT 20 19 4,.o 8 (.galloc zT),.n (.st 8 4 (.t 20))] (.r [.M 21 6,.o 22 (.mkfn 409 [.t 8]),.c 23 214 [.t 21,.t 22],.o 24 (.un .not (.t 23))] (.i 24 (.q [.M 25 5,.o 26 (.ldg 8 4 true),.o 27 (.mksl 4 [.t 26]),.o 28 (.appM 56 4 (.t 25) (.t 27)),.M 5 28]))))) (.q [.C 29 .add 17 1,.M 17 29])))
def f406r0:AC:= .r [.M 30 5,.c 31 170 [.t 30,.c (.fn 30 [])]] (.v [.o 32 (.frz 5 4),.F 33 2 1,.l 34 2 1 1,.o 35 (.mkst [.sl true 4 [],.sl true 4 []] [(0,1,.t 32),(1,1,.t 34)]),.S 4 0 2 35])
def f406C:AC:= .r [.b 2 0,.b 3 1,.o 4 (.alloc [.sl true 4 [],.sl true 4 []])] (.r [.F 9 2 0,.l 10 2 0 1,.c 11 193 [.t 10],.M 5 11] (.r [.L 12 3 0 2,.c 13 408 [.t 12],.o 6 (.mvs 13)] (.seq (.r [.L 14 2 0 2,.c 15 408 [.t 14],.N 16 15,.I 17 0] (.block 0 (.loop (f406l0)))) (f406r0))))
def f406:Qk:=⟨2,36,[.cell 4 2 true],f406C,false⟩
@[simp] theorem f406B:f406.body=f406C∧f406.res=[.cell 4 2 true]∧f406.keep=false:=⟨rfl,rfl,rfl⟩
def f408C:AC:= .r [.b 1 0,.Z 2 4] (.r [.L 6 1 0 2,.c 7 157 [.t 6],.M 5 7,.E 8 5 0,.E 9 5 1,.o 3 (.mvs 8),.M 4 9] (.seq (.r [.M 10 3,.N 11 10,.F 12 1 1,.l 13 1 1 1,.N 14 13,.B 15 .lss 11 14] (.i 15 (.v [.Z 2 4]))) (.v [.M 16 3,.F 17 1 1,.l 18 1 1 1,.N 19 18,.o 20 (.slcl 4 (.t 16) (some (.t 19)) none),.o 2 (.mvs 20)])))
def f408:Qk:=⟨1,21,[.tmp 2],f408C,false⟩
@[simp] theorem f408B:f408.body=f408C∧f408.res=[.tmp 2]∧f408.keep=false:=⟨rfl,rfl,rfl⟩
def f409C:AC:= .r [.b 2 0,.f 3 false] (.v [.o 4 (.ldg 1 4 true),.L 5 2 0 4,.c 6 410 [.t 4,.t 5],.M 3 6])
def f409:Qk:=⟨2,7,[.tmp 3],f409C,false⟩
@[simp] theorem f409B:f409.body=f409C∧f409.res=[.tmp 3]∧f409.keep=false:=⟨rfl,rfl,rfl⟩
def f410C:AC:= .r [.b 2 0,.b 3 1,.f 4 false] (.v [.L 5 2 0 4,.L 6 3 0 4,.c 7 30 [.t 5,.t 6],.C 8 .eql 7 0,.M 4 8])
def f410:Qk:=⟨2,9,[.tmp 4],f410C,false⟩
@[simp] theorem f410B:f410.body=f410C∧f410.res=[.tmp 4]∧f410.keep=false:=⟨rfl,rfl,rfl⟩
def f411C:AC:= .r [.b 1 0,.Z 2 9,.I 3 0] (.seq (.r [.L 5 1 0 2,.c 6 412 [.t 5],.M 4 6] (.r [.M 7 4,.C 8 .neq 7 0] (.i 8 (.v [.M 9 4,.Z 2 9,.M 3 9])))) (.v [.L 10 1 0 2,.c 11 413 [.t 10],.E 12 11 0,.E 13 11 1,.o 2 (.mvs 12),.M 3 13]))
def f411:Qk:=⟨1,14,[.tmp 2,.tmp 3],f411C,false⟩
@[simp] theorem f411B:f411.body=f411C∧f411.res=[.tmp 2,.tmp 3]∧f411.keep=false:=⟨rfl,rfl,rfl⟩
def f412C:AC:= .r [.b 1 0,.I 2 0] (.seq (.r [.L 4 1 0 2,.c 5 158 [.t 4],.M 3 5] (.r [.M 6 3,.C 7 .neq 6 0] (.i 7 (.v [.M 8 3,.M 2 8])))) (.seq (.r [.F 9 1 1,.l 10 1 1 1,.c 11 214 [.t 10,.c (.fn 403 [])]] (.i 11 (.v [.I 2 10]))) (.v [.I 2 0])))
def f412:Qk:=⟨1,12,[.tmp 2],f412C,false⟩
@[simp] theorem f412B:f412.body=f412C∧f412.res=[.tmp 2]∧f412.keep=false:=⟨rfl,rfl,rfl⟩
def f413l0:AC:= .r [.B 23 .lss 22 21] (.seq (.x 23 0) (.seq (.block 1 (.r [.M 24 22,.M 8 24] (.r [.M 26 4,.M 27 8,.M 28 5,.c 29 428 [.t 26,.t 27,.t 28],.M 25 29,.E 30 25 0,.E 31 25 1,.o 9 (.mvs 30),.o 10 (.mvs 31)] (.seq (.r [.M 32 10,.o 33 (.mkfn 431 [.t 1]),.c 34 214 [.t 32,.t 33]] (.i 34 (.v [.Z 2 9,.I 3 3]))) (.q [.o 35 (.mvs 7),.M 36 9,.A 37 120 9 35 36,.o 7 (.mvs 37)]))))) (.q [.C 38 .add 22 1,.M 22 38])))
def f413r0:AC:= .v [.M 39 7,.o 2 (.mvs 39),.I 3 0]
def f413C:AC:= .r [.o 1 (.gbox (.t 0)),.Z 2 9,.I 3 0] (.r [.o 12 (.ldg 1 2 true),.c 13 414 [.t 12],.M 11 13,.E 14 11 0,.E 15 11 1,.E 16 11 2,.o 4 (.mvs 14),.M 5 15,.M 6 16] (.seq (.r [.M 17 6,.C 18 .neq 17 0] (.i 18 (.v [.M 19 6,.Z 2 9,.M 3 19]))) (.r [.Z 7 9] (.seq (.r [.M 20 4,.N 21 20,.I 22 0] (.block 0 (.loop (f413l0)))) (f413r0)))))
def f413:Qk:=⟨1,40,[.tmp 2,.tmp 3],f413C,false⟩
@[simp] theorem f413B:f413.body=f413C∧f413.res=[.tmp 2,.tmp 3]∧f413.keep=false:=⟨rfl,rfl,rfl⟩
def f414l0:AC:= .r [.B 18 .lss 17 16] (.seq (.x 18 0) (.seq (.block 1 (.r [.M 19 17,.X 20 4 15 17,.DT 21 20 4,.T 7,.M 6 19,.S 7 0 4 21] (.z [.o 22 (.mvs 5),.L 23 7 0 4,.M 24 6,.c 25 18 [.t 24],.o 26 (.bin .add (.c (.str [119])) (.t 25)),.o 27 (.mkst zT [(0,1,.i 1),(1,1,.t 26)]),.o 28 (.mkst [.int .i64 0,.str [],.int .i64 0,.sl true 4 [],.int .i64 0,.str [],.int .i64 0,.sl true 4 []] [(0,4,.t 23),(4,4,.t 27)]),.o 29 (.mksl 8 [.t 28]),.A 30 112 8 22 29,.o 5 (.mvs 30)]))) (.q [.C 31 .add 17 1,.M 17 31])))
def f414l1:AC:= .r [.B 36 .lss 35 34] (.seq (.x 36 2) (.seq (.block 3 (.r [.X 37 4 33 35,.DT 38 37 4,.T 9,.S 9 0 4 38] (.q [.o 39 (.mvs 5),.L 40 9 0 4,.L 41 9 0 4,.o 42 (.mkst [.int .i64 0,.str [],.int .i64 0,.sl true 4 [],.int .i64 0,.str [],.int .i64 0,.sl true 4 []] [(0,4,.t 40),(4,4,.t 41)]),.o 43 (.mksl 8 [.t 42]),.A 44 112 8 39 43,.o 5 (.mvs 44)]))) (.q [.C 45 .add 35 1,.M 35 45])))
def f414l2:AC:= .seq (.r [.M 49 12,.M 50 5,.N 51 50,.B 52 .lss 49 51] (.x 52 4)) (.seq (.block 5 (.seq (.r [.M 55 11,.M 56 12,.o 57 (.lkm false false (.t 55) (.t 56) (.bool false))] (.i 57 (.exit 5))) (.r [.M 58 5,.M 59 5,.M 60 12,.X 61 8 59 60,.DT 62 61 8,.c 63 415 [.t 58,.t 62],.o 13 (.mvs 63)] (.seq (.r [.M 64 13,.N 65 64,.C 66 .eql 65 0] (.i 66 (.exit 5))) (.seq (.r [.M 67 13,.o 68 (.mkfn 423 [.t 1]),.c 69 426 [.t 67,.t 68]] (.i 69 (.v [.Z 2 8,.I 3 0,.I 4 3]))) (.r [.M 70 11,.M 71 12,.n (.upm false (.t 70) (.t 71) (.c (.bool true)))] (.r [.o 72 (.mvs 5),.M 73 13,.A 74 112 8 72 73,.o 5 (.mvs 74)] (.q [.I 12 (-1)])))))))) (.q [.M 53 12,.C 54 .add 53 1,.M 12 54]))
def f414r0:AC:= .v [.M 75 5,.M 76 10,.o 2 (.mvs 75),.M 3 76,.I 4 0]
def f414r1:AC:= .r [.M 46 5,.N 47 46,.M 10 47] (.r [.o 48 (.mkm),.M 11 48] (.seq (.r [.I 12 0] (.block 4 (.loop (f414l2)))) (f414r0)))
def f414r2:AC:= .seq (.r [.o 32 (.ldg 1 2 true),.c 33 408 [.t 32],.N 34 33,.I 35 0] (.block 2 (.loop (f414l1)))) (f414r1)
def f414C:AC:= .r [.o 1 (.gbox (.t 0)),.Z 2 8,.I 3 0,.I 4 0] (.r [.Z 5 8] (.seq (.r [.o 14 (.fadr 1 1),.o 15 (.ldg 14 1 false),.N 16 15,.I 17 0] (.block 0 (.loop (f414l0)))) (f414r2)))
def f414:Qk:=⟨1,77,[.tmp 2,.tmp 3,.tmp 4],f414C,false⟩
@[simp] theorem f414B:f414.body=f414C∧f414.res=[.tmp 2,.tmp 3,.tmp 4]∧f414.keep=false:=⟨rfl,rfl,rfl⟩
def f415C:AC:= .r [.b 3 1,.Z 4 8] (.seq (.z [.F 12 3 0,.L 13 3 0 4,.F 14 3 4,.L 15 3 4 4,.T 5,.T 6,.S 5 0 4 13,.S 6 0 4 15]) (.seq (.block 0 (.r [.L 17 5 0 4,.o 18 (.mksl 1 [.c (.str [112,97,105,114])]),.c 19 416 [.t 17,.t 18],.M 16 19] (.cond (.t 16) (.seq (.z [.F 20 5 3,.l 21 5 3 1,.o 22 (.idxa 4 (.t 21) (.i 0)),.DT 23 22 4,.L 24 6 0 4,.o 25 (.mksl 4 [.t 24]),.c 26 417 [.c (.str [102,115,116]),.t 25],.o 27 (.mkst [.int .i64 0,.str [],.int .i64 0,.sl true 4 [],.int .i64 0,.str [],.int .i64 0,.sl true 4 []] [(0,4,.t 23),(4,4,.t 26)]),.F 28 5 3,.l 29 5 3 1,.o 30 (.idxa 4 (.t 29) (.i 1)),.DT 31 30 4,.L 32 6 0 4,.o 33 (.mksl 4 [.t 32]),.c 34 417 [.c (.str [115,110,100]),.t 33],.o 35 (.mkst [.int .i64 0,.str [],.int .i64 0,.sl true 4 [],.int .i64 0,.str [],.int .i64 0,.sl true 4 []] [(0,4,.t 31),(4,4,.t 34)]),.o 36 (.mksl 8 [.t 27,.t 35]),.o 4 (.mvs 36)]) (.ret)) (.r [.L 38 5 0 4,.o 39 (.mksl 1 [.c (.str [115,105,103,110])]),.c 40 416 [.t 38,.t 39],.M 37 40] (.i 37 (.seq (.z [.F 41 5 3,.l 42 5 3 1,.o 43 (.idxa 4 (.t 42) (.i 0)),.DT 44 43 4,.L 45 6 0 4,.o 46 (.mksl 4 [.t 45]),.c 47 417 [.c (.str [114,101,97,100]),.t 46],.o 48 (.mkst [.int .i64 0,.str [],.int .i64 0,.sl true 4 [],.int .i64 0,.str [],.int .i64 0,.sl true 4 []] [(0,4,.t 44),(4,4,.t 47)]),.o 49 (.mksl 8 [.t 48]),.o 4 (.mvs 49)]) (.ret))))))) (.r [.L 51 5 0 4,.c 52 418 [.t 51],.M 50 52,.E 53 50 0,.E 54 50 1,.T 7,.S 7 0 4 53,.M 8 54] (.seq (.r [.M 55 8,.C 56 .neq 55 0] (.i 56 (.v [.Z 4 8]))) (.r [.M 58 0,.L 59 7 0 4,.c 60 419 [.t 58,.t 59],.M 57 60,.E 61 57 0,.E 62 57 1,.T 9,.S 9 0 4 61,.M 10 62] (.seq (.r [.M 63 10,.o 64 (.un .not (.t 63))] (.i 64 (.v [.Z 4 8]))) (.r [.o 11 (.mov (.c (.str [100,101,99])))] (.seq (.r [.L 65 5 0 4,.o 66 (.mksl 1 [.c (.str [97,101,110,99])]),.c 67 416 [.t 65,.t 66]] (.i 67 (.q [.o 11 (.mov (.c (.str [97,100,101,99])))]))) (.seq (.z [.F 68 5 3,.l 69 5 3 1,.o 70 (.idxa 4 (.t 69) (.i 0)),.DT 71 70 4,.M 72 11,.L 73 6 0 4,.L 74 9 0 4,.o 75 (.mksl 4 [.t 73,.t 74]),.c 76 417 [.t 72,.t 75],.o 77 (.mkst [.int .i64 0,.str [],.int .i64 0,.sl true 4 [],.int .i64 0,.str [],.int .i64 0,.sl true 4 []] [(0,4,.t 71),(4,4,.t 76)]),.o 78 (.mksl 8 [.t 77]),.o 4 (.mvs 78)]) (.ret))))))))))
def f415:Qk:=⟨2,79,[.tmp 4],f415C,false⟩
@[simp] theorem f415B:f415.body=f415C∧f415.res=[.tmp 4]∧f415.keep=false:=⟨rfl,rfl,rfl⟩
def f416C:AC:= .r [.b 2 0,.f 4 false] (.v [.F 5 2 0,.l 6 2 0 1,.C 7 .eql 6 3,.M 8 7,.g 9 (.m 1) 8 true,.g 10 (.fad 2 1) 8 true,.g 11 (.ldf 2 1 1 false) 8 true,.g 12 (.call 161 [.t 9,.t 11]) 8 true,.P 13 8 12,.M 4 13])
def f416:Qk:=⟨2,14,[.tmp 4],f416C,false⟩
@[simp] theorem f416B:f416.body=f416C∧f416.res=[.tmp 4]∧f416.keep=false:=⟨rfl,rfl,rfl⟩
def f417C:AC:= .r [.T 4] (.v [.M 5 0,.M 6 1,.o 7 (.mkst zT [(0,1,.i 3),(1,1,.t 5),(3,1,.t 6)]),.S 4 0 4 7])
def f417:Qk:=⟨2,8,[.cell 4 4 true],f417C,false⟩
@[simp] theorem f417B:f417.body=f417C∧f417.res=[.cell 4 4 true]∧f417.keep=false:=⟨rfl,rfl,rfl⟩
def f418C:AC:= .r [.b 1 0,.T 2,.I 3 0] (.seq (.r [.L 5 1 0 4,.c 6 41 [.t 5],.M 4 6] (.r [.M 7 4,.C 8 .neq 7 0] (.i 8 (.v [.o 9 (.mkst zG []),.M 10 4,.n (.stn 2 0 4 (.t 9) zT),.M 3 10])))) (.seq (.block 0 (.r [.L 12 1 0 4,.c 13 71 [.t 12,.c (.str [101,110,99])],.M 11 13] (.cond (.t 11) (.v [.F 14 1 3,.l 15 1 3 1,.o 16 (.idxa 4 (.t 15) (.i 1)),.DT 17 16 4,.c 18 46 [.t 17],.S 2 0 4 18,.I 3 0]) (.r [.L 20 1 0 4,.c 21 71 [.t 20,.c (.str [97,101,110,99])],.o 22 (.un .not (.t 21)),.M 19 22] (.cond (.t 19) (.v [.o 23 (.mkst zG []),.n (.stn 2 0 4 (.t 23) zT),.I 3 10]) (.r [.F 25 1 3,.l 26 1 3 1,.o 27 (.idxa 4 (.t 26) (.i 1)),.DT 28 27 4,.c 29 71 [.t 28,.c (.str [112,107])],.o 30 (.un .not (.t 29)),.M 24 30] (.i 24 (.v [.o 31 (.mkst zG []),.n (.stn 2 0 4 (.t 31) zT),.I 3 4])))))))) (.v [.F 32 1 3,.l 33 1 3 1,.o 34 (.idxa 4 (.t 33) (.i 1)),.o 35 (.fadr 34 3),.DF 36 35 1,.o 37 (.idxa 4 (.t 36) (.i 0)),.DT 38 37 4,.c 39 46 [.t 38],.S 2 0 4 39,.I 3 0])))
def f418:Qk:=⟨1,40,[.cell 2 4 true,.tmp 3],f418C,false⟩
@[simp] theorem f418B:f418.body=f418C∧f418.res=[.cell 2 4 true,.tmp 3]∧f418.keep=false:=⟨rfl,rfl,rfl⟩
def f419C:AC:= .r [.o 3 (.gbox (.t 1)),.T 4,.f 5 false] (.seq (.r [.M 7 0,.o 8 (.mkfn 420 [.t 3]),.c 9 421 [.t 7,.t 8],.M 6 9] (.r [.M 10 6,.C 11 .geq 10 0] (.i 11 (.v [.M 12 0,.M 13 6,.X 14 8 12 13,.o 15 (.fadr 14 4),.DT 16 15 4,.S 4 0 4 16,.f 5 true])))) (.seq (.r [.o 17 (.ldg 3 4 true),.c 18 159 [.t 17]] (.i 18 (.v [.o 19 (.ldg 3 4 true),.S 4 0 4 19,.f 5 true]))) (.v [.M 20 0,.o 21 (.ldg 3 4 true),.c 22 422 [.t 20,.t 21],.E 23 22 0,.E 24 22 1,.S 4 0 4 23,.M 5 24])))
def f419:Qk:=⟨2,25,[.cell 4 4 true,.tmp 5],f419C,false⟩
@[simp] theorem f419B:f419.body=f419C∧f419.res=[.cell 4 4 true,.tmp 5]∧f419.keep=false:=⟨rfl,rfl,rfl⟩
def f420C:AC:= .r [.b 2 0,.f 3 false] (.v [.F 4 2 0,.L 5 2 0 4,.o 6 (.ldg 1 4 true),.c 7 410 [.t 5,.t 6],.M 3 7])
def f420:Qk:=⟨2,8,[.tmp 3],f420C,false⟩
@[simp] theorem f420B:f420.body=f420C∧f420.res=[.tmp 3]∧f420.keep=false:=⟨rfl,rfl,rfl⟩
def f421l0:AC:= .r [.B 9 .lss 8 7] (.seq (.x 9 0) (.seq (.block 1 (.r [.M 10 8,.M 5 10] (.r [.M 11 1,.M 12 0,.M 13 5,.X 14 8 12 13,.DT 15 14 8,.o 16 (.callv (.t 11) [.t 15])] (.i 16 (.v [.M 17 5,.M 4 17]))))) (.q [.C 18 .add 8 1,.M 8 18])))
def f421r0:AC:= .v [.I 4 (-1)]
def f421C:AC:= .r [.I 4 0] (.seq (.r [.M 6 0,.N 7 6,.I 8 0] (.block 0 (.loop (f421l0)))) (f421r0))
def f421:Qk:=⟨2,19,[.tmp 4],f421C,false⟩
@[simp] theorem f421B:f421.body=f421C∧f421.res=[.tmp 4]∧f421.keep=false:=⟨rfl,rfl,rfl⟩
def f422l0:AC:= .r [.B 20 .lss 19 18] (.seq (.x 20 0) (.seq (.block 1 (.r [.X 21 4 17 19,.DT 22 21 4,.T 8,.S 8 0 4 22] (.r [.M 24 0,.L 25 8 0 4,.c 26 419 [.t 24,.t 25],.M 23 26,.E 27 23 0,.E 28 23 1,.T 9,.S 9 0 4 27,.M 10 28] (.seq (.r [.M 29 10,.o 30 (.un .not (.t 29))] (.i 30 (.v [.o 31 (.mkst zG []),.n (.stn 4 0 4 (.t 31) zT),.f 5 false]))) (.q [.o 32 (.mvs 6),.L 33 9 0 4,.o 34 (.mksl 4 [.t 33]),.A 35 56 4 32 34,.o 6 (.mvs 35)]))))) (.q [.C 36 .add 19 1,.M 19 36])))
def f422r0:AC:= .v [.F 37 3 1,.l 38 3 1 1,.M 39 6,.c 40 417 [.t 38,.t 39],.S 4 0 4 40,.f 5 true]
def f422C:AC:= .r [.b 3 1,.T 4,.f 5 false] (.seq (.r [.L 11 3 0 4,.o 12 (.mksl 1 [.c (.str [112,97,105,114]),.c (.str [101,110,99]),.c (.str [97,101,110,99]),.c (.str [112,107]),.c (.str [115,105,103,110]),.c (.str [104,97,115,104])]),.c 13 416 [.t 11,.t 12],.o 14 (.un .not (.t 13))] (.i 14 (.v [.o 15 (.mkst zG []),.n (.stn 4 0 4 (.t 15) zT),.f 5 false]))) (.r [.Z 6 4] (.seq (.r [.F 16 3 3,.l 17 3 3 1,.N 18 17,.I 19 0] (.block 0 (.loop (f422l0)))) (f422r0))))
def f422:Qk:=⟨2,41,[.cell 4 4 true,.tmp 5],f422C,false⟩
@[simp] theorem f422B:f422.body=f422C∧f422.res=[.cell 4 4 true,.tmp 5]∧f422.keep=false:=⟨rfl,rfl,rfl⟩
def f423C:AC:= .r [.b 2 0,.f 3 false] (.v [.o 4 (.ldg 1 2 true),.F 5 2 4,.L 6 2 4 4,.c 7 424 [.t 4,.t 6],.M 3 7])
def f423:Qk:=⟨2,8,[.tmp 3],f423C,false⟩
@[simp] theorem f423B:f423.body=f423C∧f423.res=[.tmp 3]∧f423.keep=false:=⟨rfl,rfl,rfl⟩
def f424C:AC:= .r [.b 2 0,.b 3 1,.f 4 false] (.seq (.r [.L 7 3 0 4,.c 8 425 [.t 7]] (.i 8 (.v [.f 4 true]))) (.r [.L 10 2 0 2,.L 11 3 0 4,.c 12 219 [.t 10,.t 11],.M 9 12,.E 13 9 0,.E 14 9 1,.T 5,.S 5 0 4 13,.M 6 14] (.v [.M 15 6,.C 16 .eql 15 3,.M 4 16])))
def f424:Qk:=⟨2,17,[.tmp 4],f424C,false⟩
@[simp] theorem f424B:f424.body=f424C∧f424.res=[.tmp 4]∧f424.keep=false:=⟨rfl,rfl,rfl⟩
def f425C:AC:= .r [.b 1 0,.f 2 false] (.v [.L 3 1 0 4,.c 4 6 [.t 3],.C 5 .neq 4 0,.M 2 5])
def f425:Qk:=⟨1,6,[.tmp 2],f425C,false⟩
@[simp] theorem f425B:f425.body=f425C∧f425.res=[.tmp 2]∧f425.keep=false:=⟨rfl,rfl,rfl⟩
def f426C:AC:= .r [.f 4 false] (.v [.M 5 0,.M 6 1,.c 7 427 [.t 5,.t 6],.C 8 .geq 7 0,.M 4 8])
def f426:Qk:=⟨2,9,[.tmp 4],f426C,false⟩
@[simp] theorem f426B:f426.body=f426C∧f426.res=[.tmp 4]∧f426.keep=false:=⟨rfl,rfl,rfl⟩
def f427l0:AC:= .r [.B 9 .lss 8 7] (.seq (.x 9 0) (.seq (.block 1 (.r [.M 10 8,.M 5 10] (.r [.M 11 1,.M 12 0,.M 13 5,.X 14 8 12 13,.DT 15 14 8,.o 16 (.callv (.t 11) [.t 15])] (.i 16 (.v [.M 17 5,.M 4 17]))))) (.q [.C 18 .add 8 1,.M 8 18])))
def f427r0:AC:= .v [.I 4 (-1)]
def f427C:AC:= .r [.I 4 0] (.seq (.r [.M 6 0,.N 7 6,.I 8 0] (.block 0 (.loop (f427l0)))) (f427r0))
def f427:Qk:=⟨2,19,[.tmp 4],f427C,false⟩
@[simp] theorem f427B:f427.body=f427C∧f427.res=[.tmp 4]∧f427.keep=false:=⟨rfl,rfl,rfl⟩
def f428l0:AC:= .r [.B 35 .lss 34 33] (.seq (.x 35 0) (.seq (.block 1 (.r [.X 36 8 32 34,.DT 37 36 8,.o 14 (.alloc [.int .i64 0,.str [],.int .i64 0,.sl true 4 [],.int .i64 0,.str [],.int .i64 0,.sl true 4 []]),.S 14 0 8 37] (.r [.F 38 14 0,.L 39 14 0 4,.L 40 8 0 4,.c 41 410 [.t 39,.t 40]] (.i 41 (.q [.M 42 12,.L 43 9 0 4,.F 44 14 4,.L 45 14 4 4,.o 46 (.callv (.t 42) [.t 43,.t 45])]))))) (.q [.C 47 .add 34 1,.M 34 47])))
def f428r0:AC:= .seq (.r [.L 48 8 0 4,.c 49 159 [.t 48]] (.i 49 (.q [.M 50 12,.L 51 9 0 4,.L 52 8 0 4,.o 53 (.callv (.t 50) [.t 51,.t 52])]))) (.seq (.r [.M 55 0,.L 56 8 0 4,.c 57 422 [.t 55,.t 56],.M 54 57,.E 58 54 0,.E 59 54 1,.T 15,.S 15 0 4 58,.M 16 59] (.r [.M 60 16] (.i 60 (.r [.M 61 12,.L 62 9 0 4,.L 63 15 0 4,.o 64 (.callv (.t 61) [.t 62,.t 63])] (.q [.o 65 (.mvs 11),.L 66 15 0 4,.o 67 (.mksl 4 [.t 66]),.A 68 56 4 65 67,.o 11 (.mvs 68)]))))) (.seq (.r [.M 69 1,.M 70 2,.B 71 .geq 69 70] (.i 71 (.q [.M 72 12,.L 73 9 0 4,.L 74 9 0 4,.o 75 (.callv (.t 72) [.t 73,.t 74])]))) (.seq (.r [.L 76 8 0 4,.o 77 (.mksl 1 [.c (.str [115,105,103,110])]),.c 78 416 [.t 76,.t 77]] (.i 78 (.r [.M 80 0,.F 81 8 3,.l 82 8 3 1,.o 83 (.idxa 4 (.t 82) (.i 1)),.DT 84 83 4,.o 85 (.mksl 4 [.t 84]),.c 86 417 [.c (.str [112,107]),.t 85],.c 87 419 [.t 80,.t 86],.M 79 87,.E 88 79 0,.E 89 79 1,.T 17,.S 17 0 4 88,.M 18 89] (.r [.M 90 18] (.i 90 (.seq (.z [.M 91 12,.L 92 9 0 4,.L 93 17 0 4,.o 94 (.mksl 4 [.t 92,.t 93]),.c 95 417 [.c (.str [111,112,101,110]),.t 94],.L 96 9 0 4,.o 97 (.mksl 4 [.t 96]),.c 98 417 [.c (.str [114,101,97,100]),.t 97],.o 99 (.callv (.t 91) [.t 95,.t 98])]) (.z [.o 100 (.mvs 11),.L 101 9 0 4,.L 102 17 0 4,.o 103 (.mksl 4 [.t 101,.t 102]),.c 104 417 [.c (.str [111,112,101,110]),.t 103],.L 105 9 0 4,.o 106 (.mksl 4 [.t 105]),.c 107 417 [.c (.str [114,101,97,100]),.t 106],.o 108 (.mksl 4 [.t 104,.t 107]),.A 109 56 4 100 108,.o 11 (.mvs 109)]))))))) (.v [.o 110 (.ldg 10 1 false),.M 111 11,.o 6 (.frz 110 9),.o 7 (.mvs 111)]))))
def f428C:AC:= .r [.Z 6 9,.Z 7 4] (.seq (.z [.M 19 0,.M 20 1,.X 21 8 19 20,.o 22 (.fadr 21 0),.DT 23 22 4,.M 24 0,.M 25 1,.X 26 8 24 25,.o 27 (.fadr 26 4),.DT 28 27 4,.T 8,.T 9,.S 8 0 4 23,.S 9 0 4 28]) (.r [.o 10 (.galloc [.gs 0 0 0 0])] (.r [.Z 11 4] (.r [.o 29 (.mkfn 429 [.t 10]),.M 12 29] (.seq (.r [.M 30 0,.M 31 1,.o 32 (.slcl 8 (.t 30) none (some (.t 31))),.N 33 32,.I 34 0] (.block 0 (.loop (f428l0)))) (f428r0))))))
def f428:Qk:=⟨3,112,[.tmp 6,.tmp 7],f428C,false⟩
@[simp] theorem f428B:f428.body=f428C∧f428.res=[.tmp 6,.tmp 7]∧f428.keep=false:=⟨rfl,rfl,rfl⟩
def f429C:AC:= .r [.b 3 0,.b 4 1] (.z [.o 5 (.ldg 2 1 false),.L 6 3 0 4,.o 7 (.callq 430 [.t 6]),.L 8 4 0 4,.o 9 (.callq 430 [.t 8]),.o 10 (.mkst [.int .i64 0,.str [],.int .i64 0,.sl true 4 [],.int .i64 0,.str [],.int .i64 0,.sl true 4 [],.bool false] [(0,4,.t 7),(4,4,.t 9)]),.o 11 (.mksl 9 [.t 10]),.o 12 (.appM 120 9 (.t 5) (.t 11)),.n (.st 2 1 (.t 12))])
def f429:Qk:=⟨3,13,[],f429C,true⟩
@[simp] theorem f429B:f429.body=f429C∧f429.res=[]∧f429.keep=true:=⟨rfl,rfl,rfl⟩
def f430l0:AC:= .r [.B 13 .lss 12 11] (.seq (.x 13 0) (.seq (.block 1 (.r [.M 14 12,.X 15 4 10 12,.o 16 (.ldg 15 4 true),.T 4,.M 3 14,.S 4 0 4 16] (.z [.F 17 1 3,.l 18 1 3 1,.M 19 3,.L 20 4 0 4,.c 21 430 [.t 20],.X 22 4 18 19,.n (.st 22 4 (.t 21))]))) (.q [.C 23 .add 12 1,.M 12 23])))
def f430r0:AC:= .v [.o 24 (.ldfz 1 0 4 3 4),.S 2 0 4 24]
def f430C:AC:= .r [.b 1 0,.T 2] (.r [.F 5 1 3,.l 6 1 3 1,.c 7 193 [.t 6],.F 8 1 3,.S 1 3 1 7] (.seq (.r [.F 9 1 3,.l 10 1 3 1,.N 11 10,.I 12 0] (.block 0 (.loop (f430l0)))) (f430r0)))
def f430:Qk:=⟨1,25,[.cell 2 4 true],f430C,false⟩
@[simp] theorem f430B:f430.body=f430C∧f430.res=[.cell 2 4 true]∧f430.keep=false:=⟨rfl,rfl,rfl⟩
def f431C:AC:= .r [.b 2 0,.f 3 false] (.v [.o 4 (.ldg 1 2 true),.L 5 2 0 4,.c 6 424 [.t 4,.t 5],.M 3 6])
def f431:Qk:=⟨2,7,[.tmp 3],f431C,false⟩
@[simp] theorem f431B:f431.body=f431C∧f431.res=[.tmp 3]∧f431.keep=false:=⟨rfl,rfl,rfl⟩
def f432C:AC:= .r [.b 2 0,.b 3 1,.f 4 false,.I 5 0] (.seq (.r [.L 11 2 0 2,.c 12 412 [.t 11],.M 6 12] (.r [.M 13 6,.C 14 .neq 13 0] (.i 14 (.v [.M 15 6,.f 4 false,.M 5 15])))) (.r [.L 17 2 0 2,.F 18 3 0,.L 19 3 0 4,.c 20 219 [.t 17,.t 19],.M 16 20,.E 21 16 0,.E 22 16 1,.T 7,.S 7 0 4 21,.M 8 22] (.seq (.r [.M 23 8,.C 24 .neq 23 0,.M 25 24,.g 26 (.m 8) 25 true,.g 27 (.bin .neq (.t 26) (.i 11)) 25 true,.P 28 25 27] (.i 28 (.v [.M 29 8,.f 4 false,.M 5 29]))) (.seq (.r [.F 30 3 8,.l 31 3 8 1] (.i 31 (.v [.M 32 8,.C 33 .eql 32 11,.M 4 33,.I 5 0]))) (.r [.L 35 2 0 2,.F 36 3 4,.L 37 3 4 4,.c 38 219 [.t 35,.t 37],.M 34 38,.E 39 34 0,.E 40 34 1,.T 9,.S 9 0 4 39,.M 10 40] (.seq (.r [.M 41 10,.C 42 .neq 41 0,.M 43 42,.g 44 (.m 10) 43 true,.g 45 (.bin .neq (.t 44) (.i 11)) 43 true,.P 46 43 45] (.i 46 (.v [.M 47 10,.f 4 false,.M 5 47]))) (.v [.M 48 8,.C 49 .eql 48 0,.M 50 49,.g 51 (.m 10) 50 true,.g 52 (.bin .eql (.t 51) (.i 0)) 50 true,.P 53 50 52,.M 54 53,.g 55 (.ldf 7 0 4 true) 54 true,.g 56 (.ldf 9 0 4 true) 54 true,.g 57 (.call 410 [.t 55,.t 56]) 54 true,.P 58 54 57,.M 4 58,.I 5 0])))))))
def f432:Qk:=⟨2,59,[.tmp 4,.tmp 5],f432C,false⟩
@[simp] theorem f432B:f432.body=f432C∧f432.res=[.tmp 4,.tmp 5]∧f432.keep=false:=⟨rfl,rfl,rfl⟩
def f433C:AC:= .r [.b 2 0,.o 3 (.gbox (.t 1)),.o 4 (.alloc [.int .i64 0,.str [],.int .i64 0,.sl true 4 [],.int .i64 0,.str [],.int .i64 0,.sl true 4 [],.bool false]),.I 5 0] (.seq (.r [.L 10 2 0 2,.c 11 412 [.t 10],.M 6 11] (.r [.M 12 6,.C 13 .neq 12 0] (.i 13 (.v [.o 14 (.mkst [.int .i64 0,.str [],.int .i64 0,.gs 0 0 0 0,.int .i64 0,.str [],.int .i64 0,.gs 0 0 0 0,.bool false] []),.M 15 6,.n (.stn 4 0 9 (.t 14) [.int .i64 0,.str [],.int .i64 0,.sl true 4 [],.int .i64 0,.str [],.int .i64 0,.sl true 4 [],.bool false]),.M 5 15])))) (.seq (.r [.F 16 2 0,.l 17 2 0 1,.o 18 (.mkfn 434 [.t 3]),.c 19 214 [.t 17,.t 18],.o 20 (.un .not (.t 19))] (.i 20 (.v [.o 21 (.mkst [.int .i64 0,.str [],.int .i64 0,.gs 0 0 0 0,.int .i64 0,.str [],.int .i64 0,.gs 0 0 0 0,.bool false] []),.n (.stn 4 0 9 (.t 21) [.int .i64 0,.str [],.int .i64 0,.sl true 4 [],.int .i64 0,.str [],.int .i64 0,.sl true 4 [],.bool false]),.I 5 4]))) (.r [.L 22 2 0 2,.o 23 (.fadr 3 2),.o 24 (.ldg 23 1 false),.c 25 435 [.t 22,.t 24],.T 7,.S 7 0 4 25] (.seq (.z [.F 26 2 0,.l 27 2 0 1,.F 28 2 1,.l 29 2 1 1,.o 30 (.callq 407 [.t 29]),.o 31 (.ldg 3 4 true),.o 32 (.mksl 4 [.t 31]),.A 33 56 4 30 32,.o 34 (.mkst [.sl true 4 [],.sl true 4 []] [(0,1,.t 27),(1,1,.t 33)]),.o 8 (.alloc [.sl true 4 [],.sl true 4 []]),.S 8 0 2 34]) (.seq (.z [.F 35 2 0,.l 36 2 0 1,.c 37 193 [.t 36],.L 38 7 0 4,.o 39 (.mksl 4 [.t 38]),.o 40 (.appM 56 4 (.t 37) (.t 39)),.F 41 2 1,.l 42 2 1 1,.c 43 407 [.t 42],.L 44 7 0 4,.o 45 (.mksl 4 [.t 44]),.A 46 56 4 43 45,.o 47 (.mkst [.sl true 4 [],.sl true 4 []] [(0,1,.t 40),(1,1,.t 46)]),.o 9 (.alloc [.sl true 4 [],.sl true 4 []]),.S 9 0 2 47]) (.r [.F 48 9 0,.l 49 9 0 1,.c 50 170 [.t 49,.c (.fn 30 [])]] (.v [.L 51 8 0 2,.o 52 (.ldfz 9 0 2 0 4),.c 53 401 [.t 51,.t 52],.E 54 53 0,.E 55 53 1,.S 4 0 9 54,.M 5 55])))))))
def f433:Qk:=⟨2,56,[.cell 4 9 true,.tmp 5],f433C,false⟩
@[simp] theorem f433B:f433.body=f433C∧f433.res=[.cell 4 9 true,.tmp 5]∧f433.keep=false:=⟨rfl,rfl,rfl⟩
def f434C:AC:= .r [.b 2 0,.f 3 false] (.v [.L 4 2 0 4,.o 5 (.ldg 1 4 true),.c 6 410 [.t 4,.t 5],.M 3 6])
def f434:Qk:=⟨2,7,[.tmp 3],f434C,false⟩
@[simp] theorem f434B:f434.body=f434C∧f434.res=[.tmp 3]∧f434.keep=false:=⟨rfl,rfl,rfl⟩
def f435l0:AC:= .seq (.r [.M 13 5,.o 14 (.mkfn 436 [.t 6]),.c 15 214 [.t 13,.t 14]] (.x 15 0)) (.block 1 (.q [.o 16 (.ldg 6 1 false),.o 17 (.bin .add (.t 16) (.c (.str [122]))),.n (.st 6 1 (.t 17))]))
def f435r0:AC:= .v [.o 18 (.ldg 6 1 false),.M 19 1,.o 20 (.mkst zG [(0,1,.i 2),(1,1,.t 18),(2,1,.t 19)]),.n (.stn 4 0 4 (.t 20) zT)]
def f435C:AC:= .r [.b 2 0,.T 4] (.r [.F 7 2 0,.l 8 2 0 1,.F 9 2 1,.l 10 2 1 1,.o 11 (.mksl 1 [.t 8,.t 10]),.c 12 180 [.t 11],.o 5 (.mvs 12)] (.r [.o 6 (.galloc [.str []]),.n (.st 6 1 (.c (.str [122])))] (.seq (.block 0 (.loop (f435l0))) (f435r0))))
def f435:Qk:=⟨2,21,[.cell 4 4 true],f435C,false⟩
@[simp] theorem f435B:f435.body=f435C∧f435.res=[.cell 4 4 true]∧f435.keep=false:=⟨rfl,rfl,rfl⟩
def f436C:AC:= .r [.b 2 0,.f 3 false] (.v [.L 4 2 0 4,.c 5 210 [.t 4],.o 6 (.mkfn 437 [.t 1]),.c 7 214 [.t 5,.t 6],.M 3 7])
def f436:Qk:=⟨2,8,[.tmp 3],f436C,false⟩
@[simp] theorem f436B:f436.body=f436C∧f436.res=[.tmp 3]∧f436.keep=false:=⟨rfl,rfl,rfl⟩
def f437C:AC:= .r [.b 2 0,.f 3 false] (.v [.F 4 2 1,.l 5 2 1 1,.o 6 (.ldg 1 1 false),.B 7 .eql 5 6,.M 3 7])
def f437:Qk:=⟨2,8,[.tmp 3],f437C,false⟩
@[simp] theorem f437B:f437.body=f437C∧f437.res=[.tmp 3]∧f437.keep=false:=⟨rfl,rfl,rfl⟩
def f438C:AC:= .r [.b 3 0,.b 4 1,.b 5 2,.f 6 false] (.seq (.r [.L 11 3 0 2,.L 12 4 0 2,.c 13 439 [.t 11,.t 12],.C 14 .neq 13 0] (.i 14 (.v [.f 6 false]))) (.r [.L 16 3 0 2,.L 17 5 0 9,.c 18 443 [.t 16,.t 17],.M 15 18,.E 19 15 0,.E 20 15 1,.M 7 19,.M 8 20] (.r [.L 22 4 0 2,.L 23 5 0 9,.c 24 443 [.t 22,.t 23],.M 21 24,.E 25 21 0,.E 26 21 1,.M 9 25,.M 10 26] (.v [.M 27 8,.C 28 .eql 27 0,.M 29 28,.g 30 (.m 10) 29 true,.g 31 (.bin .eql (.t 30) (.i 0)) 29 true,.P 32 29 31,.M 33 32,.g 34 (.m 7) 33 true,.g 35 (.m 9) 33 true,.g 36 (.eqb true (.t 34) (.t 35)) 33 true,.P 37 33 36,.M 6 37]))))
def f438:Qk:=⟨3,38,[.tmp 6],f438C,false⟩
@[simp] theorem f438B:f438.body=f438C∧f438.res=[.tmp 6]∧f438.keep=false:=⟨rfl,rfl,rfl⟩
def f439C:AC:= .r [.b 2 0,.b 3 1,.I 4 0] (.seq (.r [.L 7 2 0 2,.c 8 230 [.t 7],.M 5 8] (.r [.M 9 5,.C 10 .neq 9 0] (.i 10 (.v [.M 11 5,.M 4 11])))) (.seq (.r [.L 12 3 0 2,.c 13 230 [.t 12],.M 6 13] (.r [.M 14 6,.C 15 .neq 14 0] (.i 15 (.v [.M 16 6,.M 4 16])))) (.seq (.r [.L 17 2 0 2,.c 18 440 [.t 17],.C 19 .neq 18 0,.M 20 19,.g 21 (.ldf 3 0 2 true) 20 false,.g 22 (.call 440 [.t 21]) 20 false,.g 23 (.bin .neq (.t 22) (.i 0)) 20 false,.Q 24 20 23] (.i 24 (.v [.I 4 10]))) (.seq (.r [.F 25 2 1,.l 26 2 1 1,.N 27 26,.F 28 3 1,.l 29 3 1 1,.N 30 29,.B 31 .neq 27 30] (.i 31 (.v [.I 4 6]))) (.v [.I 4 0])))))
def f439:Qk:=⟨2,32,[.tmp 4],f439C,false⟩
@[simp] theorem f439B:f439.body=f439C∧f439.res=[.tmp 4]∧f439.keep=false:=⟨rfl,rfl,rfl⟩
def f440l0:AC:= .seq (.r [.M 10 4,.F 11 1 1,.l 12 1 1 1,.N 13 12,.B 14 .lss 10 13] (.x 14 0)) (.seq (.block 1 (.r [.F 17 1 1,.l 18 1 1 1,.M 19 4,.X 20 4 18 19,.DT 21 20 4,.c 22 441 [.t 21],.o 23 (.un .not (.t 22))] (.i 23 (.v [.I 2 10])))) (.q [.M 15 4,.C 16 .add 15 1,.M 4 16]))
def f440r0:AC:= .v [.I 2 0]
def f440C:AC:= .r [.b 1 0,.I 2 0] (.seq (.r [.L 5 1 0 2,.c 6 230 [.t 5],.M 3 6] (.r [.M 7 3,.C 8 .neq 7 0] (.i 8 (.v [.M 9 3,.M 2 9])))) (.seq (.r [.I 4 0] (.block 0 (.loop (f440l0)))) (f440r0)))
def f440:Qk:=⟨1,24,[.tmp 2],f440C,false⟩
@[simp] theorem f440B:f440.body=f440C∧f440.res=[.tmp 2]∧f440.keep=false:=⟨rfl,rfl,rfl⟩
def f441l0:AC:= .seq (.r [.M 10 4,.M 11 3,.N 12 11,.B 13 .lss 10 12] (.x 13 0)) (.seq (.block 1 (.r [.M 16 3,.M 17 4,.X 18 4 16 17,.o 19 (.fadr 18 0),.DF 20 19 1,.C 21 .eql 20 3,.M 22 21,.g 23 (.m 3) 22 true,.g 24 (.m 4) 22 true,.g 25 (.idxa 4 (.t 23) (.t 24)) 22 true,.g 26 (.fadr 25 1) 22 true,.g 27 (.ld 26 1 false) 22 true,.g 28 (.call 442 [.t 27]) 22 true,.g 29 (.m 28) 22 true,.g 30 (.m 3) 29 false,.g 31 (.m 4) 29 false,.g 32 (.idxa 4 (.t 30) (.t 31)) 29 false,.g 33 (.fadr 32 1) 29 false,.g 34 (.ld 33 1 false) 29 false,.g 35 (.call 128 [.t 34]) 29 false,.g 36 (.bin .eql (.t 35) (.i 3)) 29 false,.g 37 (.pick (.t 29) (.c (.bool true)) (.t 36)) 22 true,.P 38 22 37] (.i 38 (.v [.f 2 false])))) (.q [.M 14 4,.C 15 .add 14 1,.M 4 15]))
def f441r0:AC:= .v [.f 2 true]
def f441C:AC:= .r [.b 1 0,.f 2 false] (.seq (.r [.L 5 1 0 4,.c 6 126 [.t 5],.C 7 .neq 6 0] (.i 7 (.v [.f 2 false]))) (.r [.L 8 1 0 4,.c 9 237 [.t 8],.o 3 (.mvs 9)] (.seq (.r [.I 4 0] (.block 0 (.loop (f441l0)))) (f441r0))))
def f441:Qk:=⟨1,39,[.tmp 2],f441C,false⟩
@[simp] theorem f441B:f441.body=f441C∧f441.res=[.tmp 2]∧f441.keep=false:=⟨rfl,rfl,rfl⟩
def f442C:AC:= .r [.f 2 false] (.v [.M 3 0,.o 4 (.bin .eql (.t 3) (.c (.str [120,111,114]))),.M 5 4,.g 6 (.m 0) 5 false,.g 7 (.bin .eql (.t 6) (.c (.str [122,101,114,111]))) 5 false,.Q 8 5 7,.M 9 8,.g 10 (.m 0) 9 false,.g 11 (.bin .eql (.t 10) (.c (.str [101,120,112]))) 9 false,.Q 12 9 11,.M 13 12,.g 14 (.m 0) 13 false,.g 15 (.bin .eql (.t 14) (.c (.str [109,117,108]))) 13 false,.Q 16 13 15,.M 17 16,.g 18 (.m 0) 17 false,.g 19 (.bin .eql (.t 18) (.c (.str [105,110,118]))) 17 false,.Q 20 17 19,.M 21 20,.g 22 (.m 0) 21 false,.g 23 (.bin .eql (.t 22) (.c (.str [111,110,101]))) 21 false,.Q 24 21 23,.M 2 24])
def f442:Qk:=⟨1,25,[.tmp 2],f442C,false⟩
@[simp] theorem f442B:f442.body=f442C∧f442.res=[.tmp 2]∧f442.keep=false:=⟨rfl,rfl,rfl⟩
def f443C:AC:= .r [.b 2 0,.b 3 1,.f 4 false,.I 5 0] (.seq (.r [.L 11 2 0 2,.c 12 440 [.t 11],.M 6 12] (.r [.M 13 6,.C 14 .neq 13 0] (.i 14 (.v [.M 15 6,.f 4 false,.M 5 15])))) (.r [.L 17 2 0 2,.F 18 3 0,.L 19 3 0 4,.c 20 267 [.t 17,.t 19],.M 16 20,.E 21 16 0,.E 22 16 1,.T 7,.S 7 0 4 21,.M 8 22] (.seq (.r [.M 23 8,.C 24 .neq 23 0,.M 25 24,.g 26 (.m 8) 25 true,.g 27 (.bin .neq (.t 26) (.i 11)) 25 true,.P 28 25 27] (.i 28 (.v [.M 29 8,.f 4 false,.M 5 29]))) (.seq (.r [.F 30 3 8,.l 31 3 8 1] (.i 31 (.v [.M 32 8,.C 33 .eql 32 11,.M 4 33,.I 5 0]))) (.r [.L 35 2 0 2,.F 36 3 4,.L 37 3 4 4,.c 38 267 [.t 35,.t 37],.M 34 38,.E 39 34 0,.E 40 34 1,.T 9,.S 9 0 4 39,.M 10 40] (.seq (.r [.M 41 10,.C 42 .neq 41 0,.M 43 42,.g 44 (.m 10) 43 true,.g 45 (.bin .neq (.t 44) (.i 11)) 43 true,.P 46 43 45] (.i 46 (.v [.M 47 10,.f 4 false,.M 5 47]))) (.v [.M 48 8,.C 49 .eql 48 0,.M 50 49,.g 51 (.m 10) 50 true,.g 52 (.bin .eql (.t 51) (.i 0)) 50 true,.P 53 50 52,.M 54 53,.g 55 (.ldf 7 0 4 true) 54 true,.g 56 (.ldf 9 0 4 true) 54 true,.g 57 (.call 89 [.t 55,.t 56]) 54 true,.P 58 54 57,.M 4 58,.I 5 0])))))))
def f443:Qk:=⟨2,59,[.tmp 4,.tmp 5],f443C,false⟩
@[simp] theorem f443B:f443.body=f443C∧f443.res=[.tmp 4,.tmp 5]∧f443.keep=false:=⟨rfl,rfl,rfl⟩
def f444C:AC:= .r [.b 1 0,.f 2 false] (.v [.F 3 1 0,.l 4 1 0 1,.c 5 101 [.t 4,.i 45,.i 120],.M 6 5,.g 7 (.fad 1 1) 6 true,.g 8 (.ldf 1 1 1 false) 6 true,.g 9 (.call 101 [.t 8,.i 6,.i 40]) 6 true,.g 10 (.m 9) 6 true,.g 11 (.fad 1 1) 10 false,.g 12 (.ldf 1 1 1 false) 10 false,.g 13 (.lenl (.t 12)) 10 false,.g 14 (.bin .gtr (.t 13) (.i 40)) 10 false,.g 15 (.m 14) 10 false,.g 16 (.fad 1 1) 15 true,.g 17 (.ldf 1 1 1 false) 15 true,.g 18 (.call 101 [.t 17,.i 45,.i 45]) 15 true,.g 19 (.pick (.t 15) (.t 18) (.c (.bool false))) 10 false,.g 20 (.pick (.t 10) (.c (.bool true)) (.t 19)) 6 true,.P 21 6 20,.M 2 21])
def f444:Qk:=⟨1,22,[.tmp 2],f444C,false⟩
@[simp] theorem f444B:f444.body=f444C∧f444.res=[.tmp 2]∧f444.keep=false:=⟨rfl,rfl,rfl⟩
def f445C:AC:= .r [.b 3 0,.b 4 1,.b 5 2,.f 6 false] (.seq (.r [.c 21 398 [],.o 22 (.un .not (.t 21)),.M 23 22,.g 24 (.ldf 3 0 2 true) 23 false,.g 25 (.call 444 [.t 24]) 23 false,.g 26 (.un .not (.t 25)) 23 false,.Q 27 23 26,.M 28 27,.g 29 (.ldf 4 0 2 true) 28 false,.g 30 (.call 444 [.t 29]) 28 false,.g 31 (.un .not (.t 30)) 28 false,.Q 32 28 31,.M 33 32,.g 34 (.ldf 5 0 4 true) 33 false,.g 35 (.mksl 4 [.t 34]) 33 false,.g 36 (.call 101 [.t 35,.i 1,.i 20]) 33 false,.g 37 (.un .not (.t 36)) 33 false,.Q 38 33 37] (.i 38 (.v [.c 39 398 [],.M 6 39]))) (.r [.L 41 3 0 2,.L 42 4 0 2,.c 43 401 [.t 41,.t 42],.M 40 43,.E 44 40 0,.E 45 40 1,.o 7 (.alloc [.int .i64 0,.str [],.int .i64 0,.sl true 4 [],.int .i64 0,.str [],.int .i64 0,.sl true 4 [],.bool false]),.S 7 0 9 44,.M 8 45] (.r [.L 47 3 0 2,.L 48 4 0 2,.c 49 446 [.t 47,.t 48],.M 46 49,.E 50 46 0,.E 51 46 1,.o 9 (.alloc [.int .i64 0,.str [],.int .i64 0,.sl true 4 [],.int .i64 0,.str [],.int .i64 0,.sl true 4 [],.bool false]),.S 9 0 9 50,.M 10 51] (.r [.L 53 3 0 2,.L 54 4 0 2,.c 55 400 [.t 53,.t 54],.M 52 55,.E 56 52 0,.E 57 52 1,.M 11 56,.M 12 57] (.r [.L 59 3 0 2,.L 60 4 0 2,.c 61 461 [.t 59,.t 60],.M 58 61,.E 62 58 0,.E 63 58 1,.M 13 62,.M 14 63] (.r [.L 65 3 0 2,.L 66 5 0 4,.c 67 433 [.t 65,.t 66],.M 64 67,.E 68 64 0,.E 69 64 1,.o 15 (.alloc [.int .i64 0,.str [],.int .i64 0,.sl true 4 [],.int .i64 0,.str [],.int .i64 0,.sl true 4 [],.bool false]),.S 15 0 9 68,.M 16 69] (.r [.L 71 3 0 2,.L 72 5 0 4,.c 73 462 [.t 71,.t 72],.M 70 73,.E 74 70 0,.E 75 70 1,.o 17 (.alloc [.int .i64 0,.str [],.int .i64 0,.sl true 4 [],.int .i64 0,.str [],.int .i64 0,.sl true 4 [],.bool false]),.S 17 0 9 74,.M 18 75] (.seq (.r [.M 76 8,.M 77 10,.B 78 .neq 76 77,.M 79 78,.g 80 (.m 12) 79 false,.g 81 (.m 14) 79 false,.g 82 (.bin .neq (.t 80) (.t 81)) 79 false,.Q 83 79 82,.M 84 83,.g 85 (.m 16) 84 false,.g 86 (.m 18) 84 false,.g 87 (.bin .neq (.t 85) (.t 86)) 84 false,.Q 88 84 87,.M 89 88,.g 90 (.m 8) 89 false,.g 91 (.bin .eql (.t 90) (.i 0)) 89 false,.g 92 (.m 91) 89 false,.g 93 (.ldf 3 0 2 true) 92 true,.g 94 (.ldf 4 0 2 true) 92 true,.g 95 (.ldf 7 0 9 true) 92 true,.g 96 (.call 438 [.t 93,.t 94,.t 95]) 92 true,.g 97 (.un .not (.t 96)) 92 true,.g 98 (.pick (.t 92) (.t 97) (.c (.bool false))) 89 false,.Q 99 89 98] (.i 99 (.v [.f 6 false]))) (.seq (.r [.M 100 16,.C 101 .eql 100 0] (.i 101 (.r [.L 103 3 0 2,.L 104 5 0 4,.c 105 463 [.t 103,.t 104],.M 102 105,.E 106 102 0,.E 107 102 1,.o 19 (.alloc [.sl true 4 [],.sl true 4 []]),.o 20 (.alloc [.sl true 4 [],.sl true 4 []]),.S 19 0 2 106,.S 20 0 2 107] (.v [.L 108 19 0 2,.L 109 20 0 2,.L 110 15 0 9,.c 111 438 [.t 108,.t 109,.t 110],.M 6 111])))) (.v [.f 6 true]))))))))))
def f445:Qk:=⟨3,112,[.tmp 6],f445C,false⟩
@[simp] theorem f445B:f445.body=f445C∧f445.res=[.tmp 6]∧f445.keep=false:=⟨rfl,rfl,rfl⟩
def f446C:AC:= .r [.b 2 0,.b 3 1,.o 4 (.alloc [.int .i64 0,.str [],.int .i64 0,.sl true 4 [],.int .i64 0,.str [],.int .i64 0,.sl true 4 [],.bool false]),.I 5 0] (.seq (.r [.L 10 2 0 2,.L 11 3 0 2,.c 12 439 [.t 10,.t 11],.M 6 12] (.r [.M 13 6,.C 14 .neq 13 0] (.i 14 (.v [.o 15 (.mkst [.int .i64 0,.str [],.int .i64 0,.gs 0 0 0 0,.int .i64 0,.str [],.int .i64 0,.gs 0 0 0 0,.bool false] []),.M 16 6,.n (.stn 4 0 9 (.t 15) [.int .i64 0,.str [],.int .i64 0,.sl true 4 [],.int .i64 0,.str [],.int .i64 0,.sl true 4 [],.bool false]),.M 5 16])))) (.r [.L 18 2 0 2,.L 19 3 0 2,.c 20 447 [.t 18,.t 19],.c 21 448 [.t 20],.M 17 21,.E 22 17 0,.E 23 17 1,.o 7 (.mvs 22),.M 8 23] (.seq (.r [.M 24 8,.C 25 .neq 24 0] (.i 25 (.v [.o 26 (.mkst [.int .i64 0,.str [],.int .i64 0,.gs 0 0 0 0,.int .i64 0,.str [],.int .i64 0,.gs 0 0 0 0,.bool false] []),.M 27 8,.n (.stn 4 0 9 (.t 26) [.int .i64 0,.str [],.int .i64 0,.sl true 4 [],.int .i64 0,.str [],.int .i64 0,.sl true 4 [],.bool false]),.M 5 27]))) (.r [.L 29 3 0 2,.L 30 2 0 2,.c 31 447 [.t 29,.t 30],.c 32 448 [.t 31],.M 28 32,.E 33 28 0,.E 34 28 1,.o 9 (.mvs 33),.M 8 34] (.seq (.r [.M 35 8,.C 36 .neq 35 0] (.i 36 (.v [.o 37 (.mkst [.int .i64 0,.str [],.int .i64 0,.gs 0 0 0 0,.int .i64 0,.str [],.int .i64 0,.gs 0 0 0 0,.bool false] []),.M 38 8,.n (.stn 4 0 9 (.t 37) [.int .i64 0,.str [],.int .i64 0,.sl true 4 [],.int .i64 0,.str [],.int .i64 0,.sl true 4 [],.bool false]),.M 5 38]))) (.r [.M 40 7,.L 41 3 0 2,.c 42 475 [.t 40,.t 41],.M 39 42,.E 43 39 0,.E 44 39 1,.M 7 43,.M 8 44] (.seq (.r [.M 45 8,.C 46 .neq 45 0] (.i 46 (.v [.o 47 (.mkst [.int .i64 0,.str [],.int .i64 0,.gs 0 0 0 0,.int .i64 0,.str [],.int .i64 0,.gs 0 0 0 0,.bool false] []),.M 48 8,.n (.stn 4 0 9 (.t 47) [.int .i64 0,.str [],.int .i64 0,.sl true 4 [],.int .i64 0,.str [],.int .i64 0,.sl true 4 [],.bool false]),.M 5 48]))) (.r [.M 50 9,.L 51 2 0 2,.c 52 475 [.t 50,.t 51],.M 49 52,.E 53 49 0,.E 54 49 1,.M 9 53,.M 8 54] (.seq (.r [.M 55 8,.C 56 .neq 55 0] (.i 56 (.v [.o 57 (.mkst [.int .i64 0,.str [],.int .i64 0,.gs 0 0 0 0,.int .i64 0,.str [],.int .i64 0,.gs 0 0 0 0,.bool false] []),.M 58 8,.n (.stn 4 0 9 (.t 57) [.int .i64 0,.str [],.int .i64 0,.sl true 4 [],.int .i64 0,.str [],.int .i64 0,.sl true 4 [],.bool false]),.M 5 58]))) (.seq (.r [.M 59 7,.M 60 9,.o 61 (.appM 120 9 (.t 59) (.t 60)),.M 7 61] (.r [.M 62 7,.N 63 62,.C 64 .gtr 63 0] (.i 64 (.v [.M 65 7,.o 66 (.idxa 9 (.t 65) (.i 0)),.o 67 (.ldg 66 9 true),.S 4 0 9 67,.I 5 0])))) (.v [.o 68 (.mkst [.int .i64 0,.str [],.int .i64 0,.gs 0 0 0 0,.int .i64 0,.str [],.int .i64 0,.gs 0 0 0 0,.bool false] []),.n (.stn 4 0 9 (.t 68) [.int .i64 0,.str [],.int .i64 0,.sl true 4 [],.int .i64 0,.str [],.int .i64 0,.sl true 4 [],.bool false]),.I 5 15])))))))))))
def f446:Qk:=⟨2,69,[.cell 4 9 true,.tmp 5],f446C,false⟩
@[simp] theorem f446B:f446.body=f446C∧f446.res=[.cell 4 9 true,.tmp 5]∧f446.keep=false:=⟨rfl,rfl,rfl⟩
def f447l0:AC:= .seq (.r [.M 18 8,.M 19 6,.N 20 19,.B 21 .lss 18 20] (.x 21 0)) (.seq (.block 1 (.r [.M 24 7,.M 25 6,.M 26 8,.X 27 4 25 26,.DT 28 27 4,.c 29 250 [.t 24,.t 28],.o 30 (.un .not (.t 29))] (.i 30 (.z [.F 31 5 0,.l 32 5 0 1,.M 33 6,.M 34 8,.X 35 4 33 34,.DT 36 35 4,.c 37 239 [.t 32,.t 36],.F 38 5 0,.n (.stfm 5 0 37)])))) (.q [.M 22 8,.C 23 .add 22 1,.M 8 23]))
def f447r0:AC:= .v [.L 39 5 0 2,.S 4 0 2 39]
def f447C:AC:= .r [.b 2 0,.b 3 1,.o 4 (.alloc [.sl true 4 [],.sl true 4 []])] (.r [.F 9 2 0,.l 10 2 0 1,.F 11 2 1,.l 12 2 1 1,.o 13 (.mkst [.sl true 4 [],.sl true 4 []] [(0,1,.t 10),(1,1,.t 12)]),.o 5 (.alloc [.sl true 4 [],.sl true 4 []]),.S 5 0 2 13] (.seq (.z [.L 14 2 0 2,.c 15 264 [.t 14],.L 16 3 0 2,.c 17 264 [.t 16],.o 6 (.mvs 15),.o 7 (.mvs 17)]) (.seq (.r [.I 8 0] (.block 0 (.loop (f447l0)))) (f447r0))))
def f447:Qk:=⟨2,40,[.cell 4 2 true],f447C,false⟩
@[simp] theorem f447B:f447.body=f447C∧f447.res=[.cell 4 2 true]∧f447.keep=false:=⟨rfl,rfl,rfl⟩
def f448C:AC:= .r [.b 1 0,.Z 2 9,.I 3 0] (.seq (.r [.L 5 1 0 2,.c 6 440 [.t 5],.M 4 6] (.r [.M 7 4,.C 8 .neq 7 0] (.i 8 (.v [.M 9 4,.Z 2 9,.M 3 9])))) (.v [.L 10 1 0 2,.c 11 449 [.t 10],.E 12 11 0,.E 13 11 1,.o 2 (.mvs 12),.M 3 13]))
def f448:Qk:=⟨1,14,[.tmp 2,.tmp 3],f448C,false⟩
@[simp] theorem f448B:f448.body=f448C∧f448.res=[.tmp 2,.tmp 3]∧f448.keep=false:=⟨rfl,rfl,rfl⟩
def f449l0:AC:= .seq (.r [.M 17 8,.M 18 4,.N 19 18,.B 20 .lss 17 19] (.x 20 0)) (.seq (.block 1 (.seq (.r [.L 23 1 0 2,.M 24 4,.M 25 8,.c 26 457 [.t 23,.t 24,.t 25],.o 27 (.un .not (.t 26))] (.i 27 (.v [.Z 2 9,.I 3 3]))) (.q [.o 28 (.mvs 7),.M 29 4,.M 30 8,.M 31 8,.M 32 5,.B 33 .geq 31 32,.c 34 458 [.t 29,.t 30,.t 33],.A 35 120 9 28 34,.o 7 (.mvs 35)]))) (.q [.M 21 8,.C 22 .add 21 1,.M 8 22]))
def f449r0:AC:= .v [.M 36 7,.o 2 (.mvs 36),.I 3 0]
def f449C:AC:= .r [.b 1 0,.Z 2 9,.I 3 0] (.r [.L 10 1 0 2,.c 11 450 [.t 10],.M 9 11,.E 12 9 0,.E 13 9 1,.E 14 9 2,.o 4 (.mvs 12),.M 5 13,.M 6 14] (.seq (.r [.M 15 6,.o 16 (.un .not (.t 15))] (.i 16 (.v [.Z 2 9,.I 3 3]))) (.r [.Z 7 9] (.seq (.r [.I 8 0] (.block 0 (.loop (f449l0)))) (f449r0)))))
def f449:Qk:=⟨1,37,[.tmp 2,.tmp 3],f449C,false⟩
@[simp] theorem f449B:f449.body=f449C∧f449.res=[.tmp 2,.tmp 3]∧f449.keep=false:=⟨rfl,rfl,rfl⟩
def f450l0:AC:= .seq (.r [.M 14 6,.F 15 1 1,.l 16 1 1 1,.N 17 16,.B 18 .lss 14 17] (.x 18 0)) (.seq (.block 1 (.z [.o 21 (.mvs 5),.F 22 1 1,.l 23 1 1 1,.M 24 6,.X 25 4 23 24,.DT 26 25 4,.M 27 6,.c 28 270 [.t 27],.o 29 (.mkst [.int .i64 0,.str [],.int .i64 0,.sl true 4 [],.int .i64 0,.str [],.int .i64 0,.sl true 4 []] [(0,4,.t 26),(4,4,.t 28)]),.o 30 (.mksl 8 [.t 29]),.A 31 112 8 21 30,.o 5 (.mvs 31)])) (.q [.M 19 6,.C 20 .add 19 1,.M 6 20]))
def f450l1:AC:= .seq (.r [.M 34 8,.M 35 7,.N 36 35,.B 37 .lss 34 36] (.x 37 2)) (.seq (.block 3 (.z [.o 40 (.mvs 5),.M 41 7,.M 42 8,.X 43 4 41 42,.DT 44 43 4,.M 45 7,.M 46 8,.X 47 4 45 46,.DT 48 47 4,.o 49 (.mkst [.int .i64 0,.str [],.int .i64 0,.sl true 4 [],.int .i64 0,.str [],.int .i64 0,.sl true 4 []] [(0,4,.t 44),(4,4,.t 48)]),.o 50 (.mksl 8 [.t 49]),.A 51 112 8 40 50,.o 5 (.mvs 51)])) (.q [.M 38 8,.C 39 .add 38 1,.M 8 39]))
def f450l2:AC:= .seq (.r [.M 56 11,.M 57 5,.N 58 57,.B 59 .lss 56 58] (.x 59 4)) (.seq (.block 5 (.r [.M 63 5,.M 64 5,.M 65 11,.X 66 8 64 65,.DT 67 66 8,.c 68 451 [.t 63,.t 67],.M 62 68,.E 69 62 0,.E 70 62 1,.o 12 (.mvs 69),.M 13 70] (.seq (.r [.M 71 10,.M 72 11,.X 73 1 71 72,.o 74 (.ldg 73 1 false),.M 75 74,.g 76 (.m 13) 75 false,.g 77 (.un .not (.t 76)) 75 false,.Q 78 75 77] (.i 78 (.exit 5))) (.seq (.r [.L 79 1 0 2,.M 80 12,.c 81 455 [.t 79,.t 80],.o 82 (.un .not (.t 81))] (.i 82 (.v [.Z 2 8,.I 3 0,.f 4 false]))) (.r [.M 83 10,.M 84 11,.X 85 1 83 84,.n (.st 85 1 (.c (.bool true)))] (.r [.o 86 (.mvs 5),.M 87 12,.A 88 112 8 86 87,.o 5 (.mvs 88)] (.r [.M 89 10,.M 90 12,.N 91 90,.o 92 (.apn 1 1 [.bool false] (.t 89) (.t 91)),.M 10 92] (.q [.I 11 (-1)])))))))) (.q [.M 60 11,.C 61 .add 60 1,.M 11 61]))
def f450r0:AC:= .v [.M 93 5,.M 94 9,.o 2 (.mvs 93),.M 3 94,.f 4 true]
def f450r1:AC:= .r [.M 52 5,.N 53 52,.M 9 53] (.r [.M 54 9,.o 55 (.mkg 1 1 [.bool false] (.t 54)),.M 10 55] (.seq (.r [.I 11 0] (.block 4 (.loop (f450l2)))) (f450r0)))
def f450r2:AC:= .r [.L 32 1 0 2,.c 33 264 [.t 32],.o 7 (.mvs 33)] (.seq (.r [.I 8 0] (.block 2 (.loop (f450l1)))) (f450r1))
def f450C:AC:= .r [.b 1 0,.Z 2 8,.I 3 0,.f 4 false] (.r [.Z 5 8] (.seq (.r [.I 6 0] (.block 0 (.loop (f450l0)))) (f450r2)))
def f450:Qk:=⟨1,95,[.tmp 2,.tmp 3,.tmp 4],f450C,false⟩
@[simp] theorem f450B:f450.body=f450C∧f450.res=[.tmp 2,.tmp 3,.tmp 4]∧f450.keep=false:=⟨rfl,rfl,rfl⟩
def f451C:AC:= .r [.b 3 1,.Z 4 8,.f 5 false] (.seq (.z [.F 13 3 0,.L 14 3 0 4,.F 15 3 4,.L 16 3 4 4,.T 6,.T 7,.S 6 0 4 14,.S 7 0 4 16]) (.seq (.r [.L 17 6 0 4,.c 18 132 [.t 17,.c (.str [112,97,105,114])]] (.i 18 (.seq (.z [.F 19 6 3,.l 20 6 3 1,.o 21 (.idxa 4 (.t 20) (.i 0)),.DT 22 21 4,.L 23 7 0 4,.o 24 (.mksl 4 [.t 23]),.c 25 120 [.c (.str [102,115,116]),.t 24],.o 26 (.mkst [.int .i64 0,.str [],.int .i64 0,.sl true 4 [],.int .i64 0,.str [],.int .i64 0,.sl true 4 []] [(0,4,.t 22),(4,4,.t 25)]),.F 27 6 3,.l 28 6 3 1,.o 29 (.idxa 4 (.t 28) (.i 1)),.DT 30 29 4,.L 31 7 0 4,.o 32 (.mksl 4 [.t 31]),.c 33 120 [.c (.str [115,110,100]),.t 32],.o 34 (.mkst [.int .i64 0,.str [],.int .i64 0,.sl true 4 [],.int .i64 0,.str [],.int .i64 0,.sl true 4 []] [(0,4,.t 30),(4,4,.t 33)]),.o 35 (.mksl 8 [.t 26,.t 34]),.o 4 (.mvs 35),.f 5 true]) (.ret)))) (.seq (.r [.L 36 6 0 4,.c 37 132 [.t 36,.c (.str [115,105,103,110])]] (.i 37 (.seq (.z [.F 38 6 3,.l 39 6 3 1,.o 40 (.idxa 4 (.t 39) (.i 0)),.DT 41 40 4,.L 42 7 0 4,.o 43 (.mksl 4 [.t 42]),.c 44 120 [.c (.str [114,101,97,100]),.t 43],.o 45 (.mkst [.int .i64 0,.str [],.int .i64 0,.sl true 4 [],.int .i64 0,.str [],.int .i64 0,.sl true 4 []] [(0,4,.t 41),(4,4,.t 44)]),.o 46 (.mksl 8 [.t 45]),.o 4 (.mvs 46),.f 5 true]) (.ret)))) (.r [.L 48 6 0 4,.c 49 304 [.t 48],.M 47 49,.E 50 47 0,.E 51 47 1,.T 8,.S 8 0 4 50,.M 9 51] (.seq (.r [.M 52 9,.C 53 .neq 52 0] (.i 53 (.v [.Z 4 8,.f 5 false]))) (.r [.M 55 0,.L 56 8 0 4,.c 57 452 [.t 55,.t 56],.M 54 57,.E 58 54 0,.E 59 54 1,.T 10,.S 10 0 4 58,.M 11 59] (.seq (.r [.M 60 11,.o 61 (.un .not (.t 60))] (.i 61 (.v [.Z 4 8,.f 5 false]))) (.r [.o 12 (.mov (.c (.str [100,101,99])))] (.seq (.r [.L 62 6 0 4,.c 63 132 [.t 62,.c (.str [97,101,110,99])]] (.i 63 (.q [.o 12 (.mov (.c (.str [97,100,101,99])))]))) (.seq (.z [.F 64 6 3,.l 65 6 3 1,.o 66 (.idxa 4 (.t 65) (.i 0)),.DT 67 66 4,.M 68 12,.L 69 7 0 4,.L 70 10 0 4,.o 71 (.mksl 4 [.t 69,.t 70]),.c 72 120 [.t 68,.t 71],.o 73 (.mkst [.int .i64 0,.str [],.int .i64 0,.sl true 4 [],.int .i64 0,.str [],.int .i64 0,.sl true 4 []] [(0,4,.t 67),(4,4,.t 72)]),.o 74 (.mksl 8 [.t 73]),.o 4 (.mvs 74),.f 5 true]) (.ret)))))))))))
def f451:Qk:=⟨2,75,[.tmp 4,.tmp 5],f451C,false⟩
@[simp] theorem f451B:f451.body=f451C∧f451.res=[.tmp 4,.tmp 5]∧f451.keep=false:=⟨rfl,rfl,rfl⟩
def f452l0:AC:= .seq (.r [.M 7 6,.M 8 0,.N 9 8,.B 10 .lss 7 9] (.x 10 0)) (.seq (.block 1 (.seq (.z [.M 13 0,.M 14 6,.X 15 8 13 14,.o 16 (.fadr 15 0),.DT 17 16 4,.L 18 3 0 4,.c 19 89 [.t 17,.t 18]]) (.i 19 (.v [.M 20 0,.M 21 6,.X 22 8 20 21,.o 23 (.fadr 22 4),.DT 24 23 4,.S 4 0 4 24,.f 5 true])))) (.q [.M 11 6,.C 12 .add 11 1,.M 6 12]))
def f452r0:AC:= .seq (.r [.L 25 3 0 4,.c 26 231 [.t 25]] (.i 26 (.v [.L 27 3 0 4,.S 4 0 4 27,.f 5 true]))) (.v [.M 28 0,.L 29 3 0 4,.c 30 453 [.t 28,.t 29],.E 31 30 0,.E 32 30 1,.S 4 0 4 31,.M 5 32])
def f452C:AC:= .r [.b 3 1,.T 4,.f 5 false] (.seq (.r [.I 6 0] (.block 0 (.loop (f452l0)))) (f452r0))
def f452:Qk:=⟨2,33,[.cell 4 4 true,.tmp 5],f452C,false⟩
@[simp] theorem f452B:f452.body=f452C∧f452.res=[.cell 4 4 true,.tmp 5]∧f452.keep=false:=⟨rfl,rfl,rfl⟩
def f453l0:AC:= .seq (.r [.M 14 7,.F 15 3 3,.l 16 3 3 1,.N 17 16,.B 18 .lss 14 17] (.x 18 0)) (.seq (.block 1 (.r [.M 22 0,.F 23 3 3,.l 24 3 3 1,.M 25 7,.X 26 4 24 25,.DT 27 26 4,.c 28 452 [.t 22,.t 27],.M 21 28,.E 29 21 0,.E 30 21 1,.T 8,.S 8 0 4 29,.M 9 30] (.seq (.r [.M 31 9,.o 32 (.un .not (.t 31))] (.i 32 (.v [.o 33 (.mkst zG []),.n (.stn 4 0 4 (.t 33) zT),.f 5 false]))) (.q [.o 34 (.mvs 6),.L 35 8 0 4,.o 36 (.mksl 4 [.t 35]),.A 37 56 4 34 36,.o 6 (.mvs 37)])))) (.q [.M 19 7,.C 20 .add 19 1,.M 7 20]))
def f453r0:AC:= .v [.F 38 3 1,.l 39 3 1 1,.M 40 6,.c 41 120 [.t 39,.t 40],.S 4 0 4 41,.f 5 true]
def f453C:AC:= .r [.b 3 1,.T 4,.f 5 false] (.seq (.r [.L 10 3 0 4,.c 11 454 [.t 10],.o 12 (.un .not (.t 11))] (.i 12 (.v [.o 13 (.mkst zG []),.n (.stn 4 0 4 (.t 13) zT),.f 5 false]))) (.r [.Z 6 4] (.seq (.r [.I 7 0] (.block 0 (.loop (f453l0)))) (f453r0))))
def f453:Qk:=⟨2,42,[.cell 4 4 true,.tmp 5],f453C,false⟩
@[simp] theorem f453B:f453.body=f453C∧f453.res=[.cell 4 4 true,.tmp 5]∧f453.keep=false:=⟨rfl,rfl,rfl⟩
def f454C:AC:= .r [.b 1 0,.f 2 false] (.seq (.r [.F 3 1 0,.l 4 1 0 1,.C 5 .neq 4 3] (.i 5 (.v [.f 2 false]))) (.seq (.r [.F 6 1 1,.l 7 1 1 1] (.block 0 (.seq (.r [.o 9 (.bin .eql (.t 7) (.c (.str [112,97,105,114]))),.M 8 9] (.cond (.t 8) (.skip) (.r [.o 10 (.bin .eql (.t 7) (.c (.str [101,110,99]))),.M 8 10] (.cond (.t 8) (.skip) (.r [.o 11 (.bin .eql (.t 7) (.c (.str [97,101,110,99]))),.M 8 11] (.cond (.t 8) (.skip) (.r [.o 12 (.bin .eql (.t 7) (.c (.str [112,107]))),.M 8 12] (.cond (.t 8) (.skip) (.r [.o 13 (.bin .eql (.t 7) (.c (.str [115,105,103,110]))),.M 8 13] (.cond (.t 8) (.skip) (.q [.o 14 (.bin .eql (.t 7) (.c (.str [104,97,115,104]))),.M 8 14]))))))))))) (.i 8 (.v [.f 2 true]))))) (.v [.f 2 false])))
def f454:Qk:=⟨1,15,[.tmp 2],f454C,false⟩
@[simp] theorem f454B:f454.body=f454C∧f454.res=[.tmp 2]∧f454.keep=false:=⟨rfl,rfl,rfl⟩
def f455l0:AC:= .seq (.r [.M 6 5,.M 7 1,.N 8 7,.B 9 .lss 6 8] (.x 9 0)) (.seq (.block 1 (.seq (.z [.L 12 2 0 2,.M 13 1,.M 14 5,.X 15 8 13 14,.o 16 (.fadr 15 4),.DT 17 16 4,.c 18 456 [.t 12,.t 17],.o 19 (.un .not (.t 18))]) (.i 19 (.v [.f 4 false])))) (.q [.M 10 5,.C 11 .add 10 1,.M 5 11]))
def f455r0:AC:= .v [.f 4 true]
def f455C:AC:= .r [.b 2 0,.f 4 false] (.seq (.r [.I 5 0] (.block 0 (.loop (f455l0)))) (f455r0))
def f455:Qk:=⟨2,20,[.tmp 4],f455C,false⟩
@[simp] theorem f455B:f455.body=f455C∧f455.res=[.tmp 4]∧f455.keep=false:=⟨rfl,rfl,rfl⟩
def f456C:AC:= .r [.b 2 0,.b 3 1,.f 4 false] (.seq (.r [.L 7 3 0 4,.c 8 54 [.t 7],.C 9 .neq 8 0] (.i 9 (.v [.f 4 false]))) (.r [.L 11 2 0 2,.L 12 3 0 4,.c 13 267 [.t 11,.t 12],.M 10 13,.E 14 10 0,.E 15 10 1,.T 5,.S 5 0 4 14,.M 6 15] (.v [.M 16 6,.C 17 .neq 16 3,.M 4 17])))
def f456:Qk:=⟨2,18,[.tmp 4],f456C,false⟩
@[simp] theorem f456B:f456.body=f456C∧f456.res=[.tmp 4]∧f456.keep=false:=⟨rfl,rfl,rfl⟩
def f457C:AC:= .r [.b 3 0,.f 6 false] (.seq (.z [.M 13 1,.M 14 2,.X 15 8 13 14,.o 16 (.fadr 15 0),.DT 17 16 4,.M 18 1,.M 19 2,.X 20 8 18 19,.o 21 (.fadr 20 4),.DT 22 21 4,.T 7,.T 8,.S 7 0 4 17,.S 8 0 4 22]) (.seq (.r [.M 24 1,.L 25 7 0 4,.c 26 453 [.t 24,.t 25],.M 23 26,.E 27 23 0,.E 28 23 1,.T 9,.S 9 0 4 27,.M 10 28] (.r [.M 29 10,.M 30 29,.g 31 (.ldf 3 0 2 true) 30 true,.g 32 (.ldf 9 0 4 true) 30 true,.g 33 (.call 456 [.t 31,.t 32]) 30 true,.g 34 (.un .not (.t 33)) 30 true,.P 35 30 34] (.i 35 (.v [.f 6 false])))) (.seq (.r [.L 36 7 0 4,.c 37 132 [.t 36,.c (.str [115,105,103,110])]] (.i 37 (.r [.M 39 1,.F 40 7 3,.l 41 7 3 1,.o 42 (.idxa 4 (.t 41) (.i 1)),.DT 43 42 4,.o 44 (.mksl 4 [.t 43]),.c 45 120 [.c (.str [112,107]),.t 44],.c 46 452 [.t 39,.t 45],.M 38 46,.E 47 38 0,.E 48 38 1,.T 11,.S 11 0 4 47,.M 12 48] (.r [.M 49 12] (.i 49 (.seq (.z [.L 50 3 0 2,.L 51 8 0 4,.L 52 11 0 4,.o 53 (.mksl 4 [.t 51,.t 52]),.c 54 120 [.c (.str [111,112,101,110]),.t 53],.c 55 456 [.t 50,.t 54],.M 56 55,.g 57 (.ldf 3 0 2 true) 56 true,.g 58 (.ldf 8 0 4 true) 56 true,.g 59 (.mksl 4 [.t 58]) 56 true,.g 60 (.call 120 [.c (.str [114,101,97,100]),.t 59]) 56 true,.g 61 (.call 456 [.t 57,.t 60]) 56 true,.P 62 56 61,.M 6 62]) (.ret))))))) (.v [.f 6 true]))))
def f457:Qk:=⟨3,63,[.tmp 6],f457C,false⟩
@[simp] theorem f457R:f457.res=[.tmp 6]:=rfl
@[simp] theorem f457K:f457.keep=false:=rfl
def f458l0:AC:= .seq (.r [.M 25 10,.M 26 1,.B 27 .lss 25 26] (.x 27 0)) (.seq (.block 1 (.seq (.z [.M 30 0,.M 31 10,.X 32 8 30 31,.o 33 (.fadr 32 0),.DT 34 33 4,.L 35 7 0 4,.c 36 89 [.t 34,.t 35]]) (.i 36 (.z [.o 37 (.mvs 9),.L 38 8 0 4,.M 39 0,.M 40 10,.X 41 8 39 40,.o 42 (.fadr 41 4),.DT 43 42 4,.c 44 459 [.t 38,.t 43],.o 45 (.mksl 9 [.t 44]),.A 46 120 9 37 45,.o 9 (.mvs 46)])))) (.q [.M 28 10,.C 29 .add 28 1,.M 10 29]))
def f458r0:AC:= .seq (.r [.L 47 7 0 4,.c 48 231 [.t 47]] (.i 48 (.q [.o 49 (.mvs 9),.L 50 8 0 4,.L 51 7 0 4,.c 52 459 [.t 50,.t 51],.o 53 (.mksl 9 [.t 52]),.A 54 120 9 49 53,.o 9 (.mvs 54)]))) (.seq (.r [.M 56 0,.L 57 7 0 4,.c 58 453 [.t 56,.t 57],.M 55 58,.E 59 55 0,.E 60 55 1,.T 11,.S 11 0 4 59,.M 12 60] (.r [.M 61 12] (.i 61 (.q [.o 62 (.mvs 9),.L 63 8 0 4,.L 64 11 0 4,.c 65 459 [.t 63,.t 64],.o 66 (.mksl 9 [.t 65]),.A 67 120 9 62 66,.o 9 (.mvs 67)])))) (.seq (.r [.M 68 2] (.i 68 (.q [.o 69 (.mvs 9),.L 70 8 0 4,.L 71 8 0 4,.c 72 459 [.t 70,.t 71],.o 73 (.mksl 9 [.t 72]),.A 74 120 9 69 73,.o 9 (.mvs 74)]))) (.seq (.r [.L 75 7 0 4,.c 76 132 [.t 75,.c (.str [115,105,103,110])]] (.i 76 (.r [.M 78 0,.F 79 7 3,.l 80 7 3 1,.o 81 (.idxa 4 (.t 80) (.i 1)),.DT 82 81 4,.o 83 (.mksl 4 [.t 82]),.c 84 120 [.c (.str [112,107]),.t 83],.c 85 452 [.t 78,.t 84],.M 77 85,.E 86 77 0,.E 87 77 1,.T 13,.S 13 0 4 86,.M 14 87] (.r [.M 88 14] (.i 88 (.z [.o 89 (.mvs 9),.L 90 8 0 4,.L 91 13 0 4,.o 92 (.mksl 4 [.t 90,.t 91]),.c 93 120 [.c (.str [111,112,101,110]),.t 92],.L 94 8 0 4,.o 95 (.mksl 4 [.t 94]),.c 96 120 [.c (.str [114,101,97,100]),.t 95],.c 97 459 [.t 93,.t 96],.o 98 (.mksl 9 [.t 97]),.A 99 120 9 89 98,.o 9 (.mvs 99)])))))) (.v [.M 100 9,.o 6 (.mvs 100)]))))
def f458C:AC:= .r [.Z 6 9] (.seq (.z [.M 15 0,.M 16 1,.X 17 8 15 16,.o 18 (.fadr 17 0),.DT 19 18 4,.M 20 0,.M 21 1,.X 22 8 20 21,.o 23 (.fadr 22 4),.DT 24 23 4,.T 7,.T 8,.S 7 0 4 19,.S 8 0 4 24]) (.r [.Z 9 9] (.seq (.r [.I 10 0] (.block 0 (.loop (f458l0)))) (f458r0))))
def f458:Qk:=⟨3,101,[.tmp 6],f458C,false⟩
@[simp] theorem f458B:f458.body=f458C∧f458.res=[.tmp 6]∧f458.keep=false:=⟨rfl,rfl,rfl⟩
def f459C:AC:= .r [.b 2 0,.b 3 1,.o 4 (.alloc [.int .i64 0,.str [],.int .i64 0,.sl true 4 [],.int .i64 0,.str [],.int .i64 0,.sl true 4 [],.bool false])] (.v [.L 5 2 0 4,.L 6 3 0 4,.o 7 (.mkst [.int .i64 0,.str [],.int .i64 0,.sl true 4 [],.int .i64 0,.str [],.int .i64 0,.sl true 4 [],.bool false] [(0,4,.t 5),(4,4,.t 6)]),.S 4 0 9 7])
def f459:Qk:=⟨2,8,[.cell 4 9 true],f459C,false⟩
@[simp] theorem f459B:f459.body=f459C∧f459.res=[.cell 4 9 true]∧f459.keep=false:=⟨rfl,rfl,rfl⟩
def f461C:AC:= .r [.b 2 0,.b 3 1,.f 4 false,.I 5 0] (.r [.L 9 2 0 2,.L 10 3 0 2,.c 11 446 [.t 9,.t 10],.M 8 11,.E 12 8 0,.E 13 8 1,.o 6 (.alloc [.int .i64 0,.str [],.int .i64 0,.sl true 4 [],.int .i64 0,.str [],.int .i64 0,.sl true 4 [],.bool false]),.S 6 0 9 12,.M 7 13] (.seq (.r [.M 14 7,.C 15 .neq 14 0,.M 16 15,.g 17 (.m 7) 16 true,.g 18 (.bin .neq (.t 17) (.i 15)) 16 true,.P 19 16 18] (.i 19 (.v [.M 20 7,.f 4 false,.M 5 20]))) (.v [.M 21 7,.C 22 .eql 21 15,.M 4 22,.I 5 0])))
def f461:Qk:=⟨2,23,[.tmp 4,.tmp 5],f461C,false⟩
@[simp] theorem f461B:f461.body=f461C∧f461.res=[.tmp 4,.tmp 5]∧f461.keep=false:=⟨rfl,rfl,rfl⟩
def f462C:AC:= .r [.b 2 0,.b 3 1,.o 4 (.alloc [.int .i64 0,.str [],.int .i64 0,.sl true 4 [],.int .i64 0,.str [],.int .i64 0,.sl true 4 [],.bool false]),.I 5 0] (.seq (.r [.L 9 2 0 2,.c 10 440 [.t 9],.M 6 10] (.r [.M 11 6,.C 12 .neq 11 0] (.i 12 (.v [.o 13 (.mkst [.int .i64 0,.str [],.int .i64 0,.gs 0 0 0 0,.int .i64 0,.str [],.int .i64 0,.gs 0 0 0 0,.bool false] []),.M 14 6,.n (.stn 4 0 9 (.t 13) [.int .i64 0,.str [],.int .i64 0,.sl true 4 [],.int .i64 0,.str [],.int .i64 0,.sl true 4 [],.bool false]),.M 5 14])))) (.seq (.r [.F 15 2 0,.l 16 2 0 1,.L 17 3 0 4,.c 18 250 [.t 16,.t 17],.o 19 (.un .not (.t 18))] (.i 19 (.v [.o 20 (.mkst [.int .i64 0,.str [],.int .i64 0,.gs 0 0 0 0,.int .i64 0,.str [],.int .i64 0,.gs 0 0 0 0,.bool false] []),.n (.stn 4 0 9 (.t 20) [.int .i64 0,.str [],.int .i64 0,.sl true 4 [],.int .i64 0,.str [],.int .i64 0,.sl true 4 [],.bool false]),.I 5 4]))) (.r [.L 22 2 0 2,.L 23 3 0 4,.c 24 463 [.t 22,.t 23],.M 21 24,.E 25 21 0,.E 26 21 1,.o 7 (.alloc [.sl true 4 [],.sl true 4 []]),.o 8 (.alloc [.sl true 4 [],.sl true 4 []]),.S 7 0 2 25,.S 8 0 2 26] (.v [.L 27 7 0 2,.L 28 8 0 2,.c 29 446 [.t 27,.t 28],.E 30 29 0,.E 31 29 1,.S 4 0 9 30,.M 5 31]))))
def f462:Qk:=⟨2,32,[.cell 4 9 true,.tmp 5],f462C,false⟩
@[simp] theorem f462B:f462.body=f462C∧f462.res=[.cell 4 9 true,.tmp 5]∧f462.keep=false:=⟨rfl,rfl,rfl⟩
def f463C:AC:= .r [.b 2 0,.b 3 1,.o 4 (.alloc [.sl true 4 [],.sl true 4 []]),.o 5 (.alloc [.sl true 4 [],.sl true 4 []])] (.r [.L 9 2 0 2,.F 10 3 2,.l 11 3 2 1,.c 12 464 [.t 9,.t 11],.T 6,.S 6 0 4 12] (.seq (.z [.F 13 2 0,.l 14 2 0 1,.o 15 (.mksl 4 []),.F 16 2 1,.l 17 2 1 1,.A 18 56 4 15 17,.L 19 3 0 4,.o 20 (.mksl 4 [.t 19]),.A 21 56 4 18 20,.o 22 (.mkst [.sl true 4 [],.sl true 4 []] [(0,1,.t 14),(1,1,.t 21)]),.o 7 (.alloc [.sl true 4 [],.sl true 4 []]),.S 7 0 2 22]) (.seq (.z [.F 23 2 0,.l 24 2 0 1,.L 25 6 0 4,.c 26 239 [.t 24,.t 25],.o 27 (.mksl 4 []),.F 28 2 1,.l 29 2 1 1,.A 30 56 4 27 29,.L 31 6 0 4,.o 32 (.mksl 4 [.t 31]),.A 33 56 4 30 32,.o 34 (.mkst [.sl true 4 [],.sl true 4 []] [(0,1,.t 26),(1,1,.t 33)]),.o 8 (.alloc [.sl true 4 [],.sl true 4 []]),.S 8 0 2 34]) (.seq (.z [.L 35 7 0 2,.L 36 8 0 2,.S 4 0 2 35,.S 5 0 2 36]) (.ret)))))
def f463:Qk:=⟨2,37,[.cell 4 2 true,.cell 5 2 true],f463C,false⟩
@[simp] theorem f463B:f463.body=f463C∧f463.res=[.cell 4 2 true,.cell 5 2 true]∧f463.keep=false:=⟨rfl,rfl,rfl⟩
def f464l0:AC:= .seq (.r [.M 19 8,.M 20 5,.N 21 20,.B 22 .lss 19 21] (.x 22 2)) (.seq (.block 3 (.q [.M 25 7,.M 26 25,.g 27 (.m 5) 26 false,.g 28 (.m 8) 26 false,.g 29 (.idxa 4 (.t 27) (.t 28)) 26 false,.g 30 (.fadr 29 0) 26 false,.g 31 (.ld 30 1 false) 26 false,.g 32 (.bin .eql (.t 31) (.i 2)) 26 false,.g 33 (.m 32) 26 false,.g 34 (.m 5) 33 true,.g 35 (.m 8) 33 true,.g 36 (.idxa 4 (.t 34) (.t 35)) 33 true,.g 37 (.fadr 36 1) 33 true,.g 38 (.ld 37 1 false) 33 true,.g 39 (.m 6) 33 true,.g 40 (.bin .eql (.t 38) (.t 39)) 33 true,.g 41 (.pick (.t 33) (.t 40) (.c (.bool false))) 26 false,.Q 42 26 41,.M 7 42])) (.q [.M 23 8,.C 24 .add 23 1,.M 8 24]))
def f464r0:AC:= .r [.M 43 7,.o 44 (.un .not (.t 43))] (.i 44 (.v [.M 45 6,.M 46 1,.c 47 107 [.t 45,.t 46],.S 4 0 4 47]))
def f464r1:AC:= .q [.M 17 6,.o 18 (.bin .add (.t 17) (.c (.str [122]))),.M 6 18]
def f464l1:AC:= .seq (.block 1 (.r [.f 7 false] (.seq (.r [.I 8 0] (.block 2 (.loop (f464l0)))) (f464r0)))) (f464r1)
def f464C:AC:= .r [.b 2 0,.T 4] (.seq (.z [.o 9 (.mksl 4 []),.F 10 2 0,.l 11 2 0 1,.A 12 56 4 9 11,.F 13 2 1,.l 14 2 1 1,.A 15 56 4 12 14,.c 16 265 [.t 15],.o 5 (.mvs 16)]) (.r [.o 6 (.mov (.c (.str [122])))] (.block 0 (.loop (f464l1)))))
def f464:Qk:=⟨2,48,[.cell 4 4 true],f464C,false⟩
@[simp] theorem f464B:f464.body=f464C∧f464.res=[.cell 4 4 true]∧f464.keep=false:=⟨rfl,rfl,rfl⟩
def f475l0:AC:= .seq (.r [.M 10 7,.M 11 0,.N 12 11,.B 13 .lss 10 12] (.x 13 0)) (.seq (.block 1 (.seq (.z [.L 17 3 0 2,.M 18 0,.M 19 7,.X 20 9 18 19,.DT 21 20 9,.c 22 443 [.t 17,.t 21],.M 16 22,.E 23 16 0,.E 24 16 1,.M 8 23,.M 9 24]) (.seq (.r [.M 25 9,.C 26 .neq 25 0] (.i 26 (.v [.M 27 9,.o 4 (.mov (.c (.gs 0 0 0 0))),.M 5 27]))) (.r [.M 28 8,.o 29 (.un .not (.t 28))] (.i 29 (.q [.M 30 6,.M 31 0,.M 32 7,.X 33 9 31 32,.DT 34 33 9,.o 35 (.mksl 9 [.t 34]),.o 36 (.appM 120 9 (.t 30) (.t 35)),.M 6 36])))))) (.q [.M 14 7,.C 15 .add 14 1,.M 7 15]))
def f475r0:AC:= .v [.M 37 6,.M 4 37,.I 5 0]
def f475C:AC:= .r [.b 3 1,.o 4 (.mov (.c (.gs 0 0 0 0))),.I 5 0] (.r [.o 6 (.mov (.c (.gs 0 0 0 0)))] (.seq (.r [.I 7 0] (.block 0 (.loop (f475l0)))) (f475r0)))
def f475:Qk:=⟨2,38,[.tmp 4,.tmp 5],f475C,true⟩
@[simp] theorem f475B:f475.body=f475C∧f475.res=[.tmp 4,.tmp 5]∧f475.keep=true:=⟨rfl,rfl,rfl⟩
def tbL:List (Nat×AFn):=[(6,.code f6),(7,.code f7),(8,.code f8),(9,.code f9),(18,.orc (XA LA)),(30,.code f30),(31,.code f31),(32,.code f32),(33,.orc (XA L9)),(41,.code f41),(42,.code f42),(43,.code f43),(44,.code f44),(45,.code f45),(46,.code f46),(47,.code f47),(48,.code f48),(49,.code f49),(54,.code f54),(55,.code f55),(56,.code f56),(57,.code f57),(58,.code f58),(59,.code f59),(60,.code f60),(61,.code f61),(63,.code f63),(71,.code f71),(73,.code f73),(74,.code f74),(75,.code f75),(89,.code f89),(90,.code f90),(91,.code f91),(101,.code f101),(102,.code f102),(107,.code f107),(120,.code f120),(126,.code f126),(127,.code f127),(128,.code f128),(129,.code f129),(130,.code f130),(131,.code f131),(132,.code f132),(153,.code f153),(154,.code f154),(155,.code f155),(156,.code f156),(157,.code f157),(158,.code f158),(159,.code f159),(160,.code f160),(161,.code f161),(162,.code f162),(163,.code f163),(164,.orc (XA JA)),(165,.code f165),(166,.code f166),(167,.code f167),(168,.code f168),(169,.code f169),(170,.orc NL),(171,.code f171),(172,.code f172),(173,.code f173),(174,.code f174),(175,.code f175),(176,.code f176),(177,.code f177),(178,.code f178),(179,.code f179),(180,.code f180),(181,.orc (Lz 56 4)),(182,.code f182),(183,.code f183),(184,.code f184),(185,.code f185),(186,.code f186),(187,.code f187),(188,.code f188),(189,.code f189),(190,.code f190),(191,.code f191),(192,.code f192),(193,.orc (Ua true 56 4)),(194,.orc (IG true 64 5)),(195,.code f195),(196,.code f196),(197,.code f197),(198,.code f198),(199,.code f199),(200,.code f200),(201,.code f201),(202,.code f202),(203,.code f203),(204,.code f204),(205,.code f205),(206,.code f206),(207,.code f207),(208,.code f208),(209,.code f209),(210,.code f210),(211,.code f211),(212,.code f212),(213,.code f213),(214,.code f214),(215,.code f215),(216,.code f216),(217,.code f217),(218,.code f218),(219,.code f219),(220,.code f220),(221,.code f221),(222,.code f222),(223,.code f223),(224,.code f224),(225,.code f225),(226,.code f226),(227,.code f227),(230,.code f230),(231,.code f231),(232,.code f232),(233,.code f233),(234,.code f234),(235,.code f235),(236,.code f236),(237,.code f237),(238,.code f238),(239,.code f239),(240,.code f240),(241,.code f241),(242,.code f242),(243,.code f243),(244,.code f244),(245,.code f245),(246,.code f246),(247,.code f247),(248,.code f248),(249,.code f249),(250,.code f250),(251,.code f251),(252,.code f252),(253,.code f253),(254,.code f254),(255,.code f255),(256,.code f256),(257,.code f257),(258,.code f258),(259,.code f259),(260,.code f260),(261,.code f261),(262,.code f262),(263,.code f263),(264,.code f264),(265,.code f265),(267,.code f267),(268,.code f268),(269,.code f269),(270,.code f270),(271,.code f271),(272,.code f272),(273,.code f273),(274,.code f274),(275,.code f275),(304,.code f304),(398,.code f398),(399,.code f399),(400,.code f400),(401,.code f401),(402,.code f402),(403,.code f403),(404,.code f404),(405,.code f405),(406,.code f406),(407,.orc (Ua false 56 4)),(408,.code f408),(409,.code f409),(410,.code f410),(411,.code f411),(412,.code f412),(413,.code f413),(414,.code f414),(415,.code f415),(416,.code f416),(417,.code f417),(418,.code f418),(419,.code f419),(420,.code f420),(421,.code f421),(422,.code f422),(423,.code f423),(424,.code f424),(425,.code f425),(426,.code f426),(427,.code f427),(428,.code f428),(429,.code f429),(430,.code f430),(431,.code f431),(432,.code f432),(433,.code f433),(434,.code f434),(435,.code f435),(436,.code f436),(437,.code f437),(438,.code f438),(439,.code f439),(440,.code f440),(441,.code f441),(442,.code f442),(443,.code f443),(444,.code f444),(445,.code f445),(446,.code f446),(447,.code f447),(448,.code f448),(449,.code f449),(450,.code f450),(451,.code f451),(452,.code f452),(453,.code f453),(454,.code f454),(455,.code f455),(456,.code f456),(457,.code f457),(458,.code f458),(459,.code f459),(461,.code f461),(462,.code f462),(463,.code f463),(464,.code f464),(475,.code f475)]
def tb:Nat→Option AFn:=fun f=>tbL.lookup f
theorem tb_6:tb 6=some (.code f6):=rfl
theorem tb_7:tb 7=some (.code f7):=rfl
theorem tb_8:tb 8=some (.code f8):=rfl
theorem tb_9:tb 9=some (.code f9):=rfl
theorem tb_18:tb 18=some (.orc (XA LA)):=rfl
theorem tb_30:tb 30=some (.code f30):=rfl
theorem tb_31:tb 31=some (.code f31):=rfl
theorem tb_32:tb 32=some (.code f32):=rfl
theorem tb_33:tb 33=some (.orc (XA L9)):=rfl
theorem tb_41:tb 41=some (.code f41):=rfl
theorem tb_42:tb 42=some (.code f42):=rfl
theorem tb_43:tb 43=some (.code f43):=rfl
theorem tb_44:tb 44=some (.code f44):=rfl
theorem tb_45:tb 45=some (.code f45):=rfl
theorem tb_46:tb 46=some (.code f46):=rfl
theorem tb_47:tb 47=some (.code f47):=rfl
theorem tb_48:tb 48=some (.code f48):=rfl
theorem tb_49:tb 49=some (.code f49):=rfl
theorem tb_54:tb 54=some (.code f54):=rfl
theorem tb_55:tb 55=some (.code f55):=rfl
theorem tb_56:tb 56=some (.code f56):=rfl
theorem tb_57:tb 57=some (.code f57):=rfl
theorem tb_58:tb 58=some (.code f58):=rfl
theorem tb_59:tb 59=some (.code f59):=rfl
theorem tb_60:tb 60=some (.code f60):=rfl
theorem tb_61:tb 61=some (.code f61):=rfl
theorem tb_71:tb 71=some (.code f71):=rfl
theorem tb_73:tb 73=some (.code f73):=rfl
theorem tb_74:tb 74=some (.code f74):=rfl
theorem tb_75:tb 75=some (.code f75):=rfl
theorem tb_89:tb 89=some (.code f89):=rfl
theorem tb_90:tb 90=some (.code f90):=rfl
theorem tb_91:tb 91=some (.code f91):=rfl
theorem tb_101:tb 101=some (.code f101):=rfl
theorem tb_102:tb 102=some (.code f102):=rfl
theorem tb_107:tb 107=some (.code f107):=rfl
theorem tb_120:tb 120=some (.code f120):=rfl
theorem tb_126:tb 126=some (.code f126):=rfl
theorem tb_127:tb 127=some (.code f127):=rfl
theorem tb_128:tb 128=some (.code f128):=rfl
theorem tb_129:tb 129=some (.code f129):=rfl
theorem tb_130:tb 130=some (.code f130):=rfl
theorem tb_131:tb 131=some (.code f131):=rfl
theorem tb_132:tb 132=some (.code f132):=rfl
theorem tb_157:tb 157=some (.code f157):=rfl
theorem tb_158:tb 158=some (.code f158):=rfl
theorem tb_159:tb 159=some (.code f159):=rfl
theorem tb_160:tb 160=some (.code f160):=rfl
theorem tb_161:tb 161=some (.code f161):=rfl
theorem tb_162:tb 162=some (.code f162):=rfl
theorem tb_163:tb 163=some (.code f163):=rfl
theorem tb_164:tb 164=some (.orc (XA JA)):=rfl
theorem tb_165:tb 165=some (.code f165):=rfl
theorem tb_166:tb 166=some (.code f166):=rfl
theorem tb_167:tb 167=some (.code f167):=rfl
theorem tb_168:tb 168=some (.code f168):=rfl
theorem tb_169:tb 169=some (.code f169):=rfl
theorem tb_170:tb 170=some (.orc NL):=rfl
theorem tb_171:tb 171=some (.code f171):=rfl
theorem tb_172:tb 172=some (.code f172):=rfl
theorem tb_173:tb 173=some (.code f173):=rfl
theorem tb_174:tb 174=some (.code f174):=rfl
theorem tb_175:tb 175=some (.code f175):=rfl
theorem tb_176:tb 176=some (.code f176):=rfl
theorem tb_177:tb 177=some (.code f177):=rfl
theorem tb_178:tb 178=some (.code f178):=rfl
theorem tb_179:tb 179=some (.code f179):=rfl
theorem tb_180:tb 180=some (.code f180):=rfl
theorem tb_181:tb 181=some (.orc (Lz 56 4)):=rfl
theorem tb_182:tb 182=some (.code f182):=rfl
theorem tb_183:tb 183=some (.code f183):=rfl
theorem tb_184:tb 184=some (.code f184):=rfl
theorem tb_185:tb 185=some (.code f185):=rfl
theorem tb_186:tb 186=some (.code f186):=rfl
theorem tb_187:tb 187=some (.code f187):=rfl
theorem tb_188:tb 188=some (.code f188):=rfl
theorem tb_189:tb 189=some (.code f189):=rfl
theorem tb_190:tb 190=some (.code f190):=rfl
theorem tb_191:tb 191=some (.code f191):=rfl
theorem tb_192:tb 192=some (.code f192):=rfl
theorem tb_193:tb 193=some (.orc (Ua true 56 4)):=rfl
theorem tb_194:tb 194=some (.orc (IG true 64 5)):=rfl
theorem tb_195:tb 195=some (.code f195):=rfl
theorem tb_196:tb 196=some (.code f196):=rfl
theorem tb_197:tb 197=some (.code f197):=rfl
theorem tb_198:tb 198=some (.code f198):=rfl
theorem tb_199:tb 199=some (.code f199):=rfl
theorem tb_200:tb 200=some (.code f200):=rfl
theorem tb_201:tb 201=some (.code f201):=rfl
theorem tb_202:tb 202=some (.code f202):=rfl
theorem tb_203:tb 203=some (.code f203):=rfl
theorem tb_204:tb 204=some (.code f204):=rfl
theorem tb_205:tb 205=some (.code f205):=rfl
theorem tb_206:tb 206=some (.code f206):=rfl
theorem tb_207:tb 207=some (.code f207):=rfl
theorem tb_208:tb 208=some (.code f208):=rfl
theorem tb_209:tb 209=some (.code f209):=rfl
theorem tb_210:tb 210=some (.code f210):=rfl
theorem tb_211:tb 211=some (.code f211):=rfl
theorem tb_212:tb 212=some (.code f212):=rfl
theorem tb_213:tb 213=some (.code f213):=rfl
theorem tb_214:tb 214=some (.code f214):=rfl
theorem tb_215:tb 215=some (.code f215):=rfl
theorem tb_216:tb 216=some (.code f216):=rfl
theorem tb_217:tb 217=some (.code f217):=rfl
theorem tb_218:tb 218=some (.code f218):=rfl
theorem tb_219:tb 219=some (.code f219):=rfl
theorem tb_220:tb 220=some (.code f220):=rfl
theorem tb_221:tb 221=some (.code f221):=rfl
theorem tb_222:tb 222=some (.code f222):=rfl
theorem tb_223:tb 223=some (.code f223):=rfl
theorem tb_224:tb 224=some (.code f224):=rfl
theorem tb_225:tb 225=some (.code f225):=rfl
theorem tb_226:tb 226=some (.code f226):=rfl
theorem tb_227:tb 227=some (.code f227):=rfl
theorem tb_230:tb 230=some (.code f230):=rfl
theorem tb_231:tb 231=some (.code f231):=rfl
theorem tb_232:tb 232=some (.code f232):=rfl
theorem tb_233:tb 233=some (.code f233):=rfl
theorem tb_234:tb 234=some (.code f234):=rfl
theorem tb_235:tb 235=some (.code f235):=rfl
theorem tb_236:tb 236=some (.code f236):=rfl
theorem tb_237:tb 237=some (.code f237):=rfl
theorem tb_238:tb 238=some (.code f238):=rfl
theorem tb_239:tb 239=some (.code f239):=rfl
theorem tb_240:tb 240=some (.code f240):=rfl
theorem tb_241:tb 241=some (.code f241):=rfl
theorem tb_242:tb 242=some (.code f242):=rfl
theorem tb_243:tb 243=some (.code f243):=rfl
theorem tb_244:tb 244=some (.code f244):=rfl
theorem tb_245:tb 245=some (.code f245):=rfl
theorem tb_246:tb 246=some (.code f246):=rfl
theorem tb_247:tb 247=some (.code f247):=rfl
theorem tb_248:tb 248=some (.code f248):=rfl
theorem tb_249:tb 249=some (.code f249):=rfl
theorem tb_250:tb 250=some (.code f250):=rfl
theorem tb_251:tb 251=some (.code f251):=rfl
theorem tb_252:tb 252=some (.code f252):=rfl
theorem tb_253:tb 253=some (.code f253):=rfl
theorem tb_254:tb 254=some (.code f254):=rfl
theorem tb_255:tb 255=some (.code f255):=rfl
theorem tb_256:tb 256=some (.code f256):=rfl
theorem tb_257:tb 257=some (.code f257):=rfl
theorem tb_258:tb 258=some (.code f258):=rfl
theorem tb_259:tb 259=some (.code f259):=rfl
theorem tb_260:tb 260=some (.code f260):=rfl
theorem tb_261:tb 261=some (.code f261):=rfl
theorem tb_262:tb 262=some (.code f262):=rfl
theorem tb_263:tb 263=some (.code f263):=rfl
theorem tb_264:tb 264=some (.code f264):=rfl
theorem tb_265:tb 265=some (.code f265):=rfl
theorem tb_267:tb 267=some (.code f267):=rfl
theorem tb_268:tb 268=some (.code f268):=rfl
theorem tb_269:tb 269=some (.code f269):=rfl
theorem tb_270:tb 270=some (.code f270):=rfl
theorem tb_271:tb 271=some (.code f271):=rfl
theorem tb_272:tb 272=some (.code f272):=rfl
theorem tb_273:tb 273=some (.code f273):=rfl
theorem tb_274:tb 274=some (.code f274):=rfl
theorem tb_275:tb 275=some (.code f275):=rfl
theorem tb_304:tb 304=some (.code f304):=rfl
theorem tb_400:tb 400=some (.code f400):=rfl
theorem tb_401:tb 401=some (.code f401):=rfl
theorem tb_402:tb 402=some (.code f402):=rfl
theorem tb_403:tb 403=some (.code f403):=rfl
theorem tb_404:tb 404=some (.code f404):=rfl
theorem tb_405:tb 405=some (.code f405):=rfl
theorem tb_406:tb 406=some (.code f406):=rfl
theorem tb_407:tb 407=some (.orc (Ua false 56 4)):=rfl
theorem tb_408:tb 408=some (.code f408):=rfl
theorem tb_409:tb 409=some (.code f409):=rfl
theorem tb_410:tb 410=some (.code f410):=rfl
theorem tb_411:tb 411=some (.code f411):=rfl
theorem tb_412:tb 412=some (.code f412):=rfl
theorem tb_413:tb 413=some (.code f413):=rfl
theorem tb_414:tb 414=some (.code f414):=rfl
theorem tb_415:tb 415=some (.code f415):=rfl
theorem tb_416:tb 416=some (.code f416):=rfl
theorem tb_417:tb 417=some (.code f417):=rfl
theorem tb_418:tb 418=some (.code f418):=rfl
theorem tb_419:tb 419=some (.code f419):=rfl
theorem tb_420:tb 420=some (.code f420):=rfl
theorem tb_421:tb 421=some (.code f421):=rfl
theorem tb_422:tb 422=some (.code f422):=rfl
theorem tb_423:tb 423=some (.code f423):=rfl
theorem tb_424:tb 424=some (.code f424):=rfl
theorem tb_425:tb 425=some (.code f425):=rfl
theorem tb_426:tb 426=some (.code f426):=rfl
theorem tb_427:tb 427=some (.code f427):=rfl
theorem tb_428:tb 428=some (.code f428):=rfl
theorem tb_429:tb 429=some (.code f429):=rfl
theorem tb_430:tb 430=some (.code f430):=rfl
theorem tb_431:tb 431=some (.code f431):=rfl
theorem tb_432:tb 432=some (.code f432):=rfl
theorem tb_433:tb 433=some (.code f433):=rfl
theorem tb_434:tb 434=some (.code f434):=rfl
theorem tb_435:tb 435=some (.code f435):=rfl
theorem tb_436:tb 436=some (.code f436):=rfl
theorem tb_437:tb 437=some (.code f437):=rfl
theorem tb_438:tb 438=some (.code f438):=rfl
theorem tb_439:tb 439=some (.code f439):=rfl
theorem tb_440:tb 440=some (.code f440):=rfl
theorem tb_441:tb 441=some (.code f441):=rfl
theorem tb_442:tb 442=some (.code f442):=rfl
theorem tb_443:tb 443=some (.code f443):=rfl
theorem tb_444:tb 444=some (.code f444):=rfl
theorem tb_445:tb 445=some (.code f445):=rfl
theorem tb_446:tb 446=some (.code f446):=rfl
theorem tb_447:tb 447=some (.code f447):=rfl
theorem tb_448:tb 448=some (.code f448):=rfl
theorem tb_449:tb 449=some (.code f449):=rfl
theorem tb_450:tb 450=some (.code f450):=rfl
theorem tb_451:tb 451=some (.code f451):=rfl
theorem tb_452:tb 452=some (.code f452):=rfl
theorem tb_453:tb 453=some (.code f453):=rfl
theorem tb_454:tb 454=some (.code f454):=rfl
theorem tb_455:tb 455=some (.code f455):=rfl
theorem tb_456:tb 456=some (.code f456):=rfl
theorem tb_457:tb 457=some (.code f457):=rfl
theorem tb_458:tb 458=some (.code f458):=rfl
theorem tb_459:tb 459=some (.code f459):=rfl
theorem tb_461:tb 461=some (.code f461):=rfl
theorem tb_462:tb 462=some (.code f462):=rfl
theorem tb_463:tb 463=some (.code f463):=rfl
theorem tb_464:tb 464=some (.code f464):=rfl
theorem tb_475:tb 475=some (.code f475):=rfl
end Go.Am.F
