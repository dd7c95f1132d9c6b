/-
  AmCode.
-/
import Derived.Test.YtkijgpjgngncpaaGreatDoorG09
import Derived.Test.YtkijgpjgngncpaaGreatDoorG12
import Derived.Test.YtkijgpjgngncpaaGreatDoorG13
set_option linter.all false
namespace Go.Am
abbrev Qn.o (d:Nat) (x:AOp):Qn:=⟨some d,x,none⟩
abbrev Qn.n (x:AOp):Qn:=⟨none,x,none⟩
abbrev Qn.g (d:Nat) (x:AOp) (t:Nat) (b:Bool):Qn:=⟨some d,x,some (t,b)⟩
abbrev AOp.m (n:Nat):AOp:= .mov (.t n)
abbrev AO.i (n:Int):AO:= .c (.int .i64 n)
abbrev Qn.M (d n:Nat):Qn:=⟨some d,.mov (.t n),none⟩
abbrev Qn.I (d:Nat) (n:Int):Qn:=⟨some d,.mov (.c (.int .i64 n)),none⟩
abbrev Qn.L (d s o z:Nat):Qn:=⟨some d,.ldf s o z true,none⟩
abbrev Qn.l (d s o z:Nat):Qn:=⟨some d,.ldf s o z false,none⟩
abbrev Qn.P (d c a:Nat):Qn:=⟨some d,.pick (.t c) (.t a) (.c (.bool false)),none⟩
abbrev Qn.Q (d c b:Nat):Qn:=⟨some d,.pick (.t c) (.c (.bool true)) (.t b),none⟩
abbrev Qn.S (s o z n:Nat):Qn:=⟨none,.stf s o z (.t n),none⟩
abbrev Qn.X (d z s i:Nat):Qn:=⟨some d,.idxa z (.t s) (.t i),none⟩
abbrev Qn.DT (d p z:Nat):Qn:=⟨some d,.ld p z true,none⟩
abbrev Qn.DF (d p z:Nat):Qn:=⟨some d,.ld p z false,none⟩
abbrev Qn.F (d s o:Nat):Qn:=⟨some d,.fad s o,none⟩
abbrev Qn.B (d:Nat) (p:BinOp) (x y:Nat):Qn:=⟨some d,.bin p (.t x) (.t y),none⟩
abbrev Qn.C (d:Nat) (p:BinOp) (x:Nat) (n:Int):Qn:=⟨some d,.bin p (.t x) (.c (.int .i64 n)),none⟩
abbrev Qn.N (d x:Nat):Qn:=⟨some d,.lenl (.t x),none⟩
abbrev Qn.E (d x i:Nat):Qn:=⟨some d,.ext (.t x) i,none⟩
abbrev Qn.b (d x:Nat):Qn:=⟨some d,.box (.t x),none⟩
abbrev Qn.f (d:Nat) (b:Bool):Qn:=⟨some d,.mov (.c (.bool b)),none⟩
abbrev Qn.A (d b z s x:Nat):Qn:=⟨some d,.app b z (.t s) (.t x),none⟩
abbrev Qn.T (d:Nat):Qn:=⟨some d,.alloc [.int .i64 0,.str [],.int .i64 0,.sl true 4 []],none⟩
abbrev AC.r (l:List Qn) (x:AC):AC:= .seq (.reg false l) x
abbrev AC.i (n:Nat) (x:AC):AC:= .cond (.t n) x .skip
abbrev Qn.Z (d k:Nat):Qn:=⟨some d,.mov (.c (.sl true k [])),none⟩
abbrev Qn.c (d f:Nat) (l:List AO):Qn:=⟨some d,.call f l,none⟩
abbrev AC.v (l:List Qn):AC:= .seq (.reg false l) .ret
abbrev AC.x (n i:Nat):AC:= .cond (.t n) .skip (.exit i)
abbrev AC.q (l:List Qn):AC:= .reg false l
abbrev AC.z (l:List Qn):AC:= .reg true l
abbrev zT:List AV:=[.int .i64 0,.str [],.int .i64 0,.sl true 4 []]
abbrev zG:List AV:=[.int .i64 0,.str [],.int .i64 0,.gs 0 0 0 0]
end Go.Am
namespace Go.Am.F
def f1C:AC:= .r [.f 0 false] (.r [.c 17 2 [.c (.str [115,114,118]),.i 10],.M 16 17,.E 18 16 0,.E 19 16 1,.o 1 (.alloc [.str [],.int .i64 0,.sl true 6 [],.int .i64 0,.sl true 2 [],.int .i64 0,.int .i64 0]),.S 1 0 7 18,.M 2 19] (.r [.L 21 1 0 7,.c 22 25 [.t 21,.c (.str [97]),.i 5],.M 20 22,.E 23 20 0,.E 24 20 1,.E 25 20 2,.E 26 20 3,.T 3,.T 4,.S 1 0 7 23,.S 3 0 4 24,.S 4 0 4 25,.M 5 26] (.r [.L 28 3 0 4,.c 29 53 [.t 28],.M 27 29,.E 30 27 0,.E 31 27 1,.M 6 30,.M 7 31] (.r [.L 33 1 0 7,.c 34 64 [.t 33,.i 6],.M 32 34,.E 35 32 0,.E 36 32 1,.o 8 (.alloc [.str [],.int .i64 0,.sl true 6 [],.int .i64 0,.sl true 2 [],.int .i64 0,.int .i64 0]),.S 8 0 7 35,.M 9 36] (.r [.L 38 8 0 7,.L 39 3 0 4,.c 40 67 [.t 38,.t 39,.i 15],.M 37 40,.E 41 37 0,.E 42 37 1,.E 43 37 2,.o 10 (.alloc [.str [],.int .i64 0,.sl true 6 [],.int .i64 0,.sl true 2 [],.int .i64 0,.int .i64 0]),.T 11,.S 10 0 7 41,.S 11 0 4 42,.M 12 43] (.r [.L 45 8 0 7,.L 46 3 0 4,.c 47 67 [.t 45,.t 46,.i 16],.M 44 47,.E 48 44 0,.E 49 44 1,.E 50 44 2,.o 13 (.alloc [.str [],.int .i64 0,.sl true 6 [],.int .i64 0,.sl true 2 [],.int .i64 0,.int .i64 0]),.T 14,.S 13 0 7 48,.S 14 0 4 49,.M 15 50] (.seq (.r [.M 51 2,.C 52 .neq 51 0,.M 53 52,.g 54 (.m 5) 53 false,.g 55 (.bin .neq (.t 54) (.i 0)) 53 false,.Q 56 53 55,.M 57 56,.g 58 (.m 9) 57 false,.g 59 (.bin .neq (.t 58) (.i 0)) 57 false,.Q 60 57 59,.M 61 60,.g 62 (.m 12) 61 false,.g 63 (.bin .neq (.t 62) (.i 0)) 61 false,.Q 64 61 63,.M 65 64,.g 66 (.m 15) 65 false,.g 67 (.bin .neq (.t 66) (.i 20)) 65 false,.Q 68 65 67,.M 69 68,.g 70 (.ldf 4 0 4 true) 69 false,.g 71 (.ldf 11 0 4 true) 69 false,.g 72 (.call 89 [.t 70,.t 71]) 69 false,.g 73 (.un .not (.t 72)) 69 false,.Q 74 69 73] (.i 74 (.v [.f 0 false]))) (.v [.M 75 6,.o 76 (.bin .eql (.t 75) (.c (.str [101,110,99,40,112,97,105,114,40,97,58,97,103,101,110,116,44,32,112,97,105,114,40,115,114,118,95,48,58,107,101,121,44,32,112,97,105,114,40,110,35,48,58,100,97,116,97,44,32,110,35,49,53,58,100,97,116,97,41,41,41,44,32,115,114,118,35,48,58,107,101,121,41]))),.M 77 76,.g 78 (.ldf 8 0 7 true) 77 true,.g 79 (.call 92 [.t 78,.i 16]) 77 true,.g 80 (.call 99 [.t 79]) 77 true,.g 81 (.lenl (.t 80)) 77 true,.g 82 (.bin .eql (.t 81) (.i 2)) 77 true,.P 83 77 82,.M 84 83,.g 85 (.ldf 8 0 7 true) 84 true,.g 86 (.call 92 [.t 85,.i 17]) 84 true,.g 87 (.call 99 [.t 86]) 84 true,.g 88 (.lenl (.t 87)) 84 true,.g 89 (.bin .eql (.t 88) (.i 1)) 84 true,.P 90 84 89,.M 0 90]))))))))
def f1:Qg:=⟨0,91,[.tmp 0],f1C,false⟩
def f2C:AC:= .r [.o 4 (.alloc [.str [],.int .i64 0,.sl true 6 [],.int .i64 0,.sl true 2 [],.int .i64 0,.int .i64 0]),.I 5 0] (.seq (.block 0 (.r [.M 7 0,.c 8 3 [.t 7],.o 9 (.un .not (.t 8)),.M 6 9] (.cond (.t 6) (.v [.o 10 (.mkst [.str [],.int .i64 0,.gs 0 0 0 0,.int .i64 0,.gs 0 0 0 0,.int .i64 0,.int .i64 0] []),.n (.stn 4 0 7 (.t 10) [.str [],.int .i64 0,.sl true 6 [],.int .i64 0,.sl true 2 [],.int .i64 0,.int .i64 0]),.I 5 2]) (.r [.M 12 1,.c 13 16 [.t 12,.i 1,.i 1000],.o 14 (.un .not (.t 13)),.M 11 14] (.i 11 (.v [.o 15 (.mkst [.str [],.int .i64 0,.gs 0 0 0 0,.int .i64 0,.gs 0 0 0 0,.int .i64 0,.int .i64 0] []),.n (.stn 4 0 7 (.t 15) [.str [],.int .i64 0,.sl true 6 [],.int .i64 0,.sl true 2 [],.int .i64 0,.int .i64 0]),.I 5 7])))))) (.v [.M 16 0,.M 17 1,.M 18 0,.c 19 17 [.t 18,.i 0],.o 20 (.mkst [.int .i64 0,.int .i64 0,.int .i64 0,.str [],.int .i64 0,.sl true 4 []] [(2,4,.t 19)]),.o 21 (.mksl 6 [.t 20]),.o 22 (.mkst [.str [],.int .i64 0,.sl true 6 [],.int .i64 0,.gs 0 0 0 0,.int .i64 0,.int .i64 0] [(0,1,.t 16),(5,1,.t 17),(2,1,.t 21)]),.n (.stn 4 0 7 (.t 22) [.str [],.int .i64 0,.sl true 6 [],.int .i64 0,.sl true 2 [],.int .i64 0,.int .i64 0]),.I 5 0]))
def f2:Qg:=⟨2,23,[.cell 4 7 true,.tmp 5],f2C,false⟩
def f3C:AC:= .r [.f 2 false] (.v [.M 3 0,.c 4 4 [.t 3],.M 5 4,.g 6 (.m 0) 5 true,.g 7 (.lens (.t 6)) 5 true,.g 8 (.bin .leq (.t 7) (.i 10)) 5 true,.P 9 5 8,.M 10 9,.g 11 (.m 0) 10 true,.g 12 (.call 10 [.t 11,.c (.str [35,95])]) 10 true,.g 13 (.un .not (.t 12)) 10 true,.P 14 10 13,.M 15 14,.g 16 (.m 0) 15 true,.g 17 (.bin .neq (.t 16) (.c (.str [101]))) 15 true,.P 18 15 17,.M 2 18])
def f3:Qg:=⟨1,19,[.tmp 2],f3C,false⟩
def f4C:AC:= .r [.f 2 false] (.v [.M 3 0,.c 4 5 [.t 3,.i 1],.c 5 6 [.t 4],.C 6 .eql 5 0,.M 2 6])
def f4:Qg:=⟨1,7,[.tmp 2],f4C,false⟩
def f5C:AC:= .r [.T 4] (.v [.M 5 0,.M 6 1,.o 7 (.mkst zG [(0,1,.i 2),(1,1,.t 5),(2,1,.t 6)]),.n (.stn 4 0 4 (.t 7) zT)])
def f5:Qg:=⟨2,8,[.cell 4 4 true],f5C,false⟩
def f6C:AC:= .r [.b 1 0,.I 2 0] (.r [.o 3 (.galloc [.int .i64 0]),.o 4 (.galloc [.int .i64 0]),.n (.st 3 1 (.i 0)),.n (.st 4 1 (.i 0))] (.seq (.r [.L 6 1 0 4,.c 7 7 [.t 6,.i 1,.t 3,.t 4],.M 5 7] (.r [.M 8 5,.C 9 .neq 8 0] (.i 9 (.v [.M 10 5,.M 2 10])))) (.seq (.r [.o 11 (.ldg 3 1 false),.C 12 .gtr 11 400,.M 13 12,.g 14 (.ldg 4 1 false) 13 false,.g 15 (.bin .gtr (.t 14) (.i 40)) 13 false,.Q 16 13 15] (.i 16 (.v [.I 2 3]))) (.v [.I 2 0]))))
def f6:Qg:=⟨1,17,[.tmp 2],f6C,false⟩
@[simp] theorem f6B:f6.body=f6C∧f6.res=[.tmp 2]∧f6.keep=false:=⟨rfl,rfl,rfl⟩
def f7l0:AC:= .r [.B 60 .lss 59 58] (.seq (.x 60 1) (.seq (.block 2 (.r [.X 61 4 57 59,.DT 62 61 4,.T 10,.S 10 0 4 62] (.r [.L 63 10 0 4,.M 64 1,.C 65 .add 64 1,.M 66 2,.M 67 3,.c 68 7 [.t 63,.t 65,.t 66,.t 67],.M 11 68] (.r [.M 69 11,.C 70 .neq 69 0] (.i 70 (.v [.M 71 11,.M 8 71])))))) (.q [.C 72 .add 59 1,.M 59 72])))
def f7r0:AC:= .v [.I 8 0]
def f7C:AC:= .r [.b 4 0,.I 8 0] (.r [.M 12 2,.o 13 (.nilck (.t 12)),.o 14 (.ldg 13 1 false),.C 15 .add 14 1,.o 16 (.nilck (.t 12)),.n (.st 16 1 (.t 15))] (.r [.M 17 3,.M 18 3,.o 19 (.nilck (.t 18)),.o 20 (.ldg 19 1 false),.M 21 1,.o 22 (.mx (.t 20) (.t 21)),.o 23 (.nilck (.t 17)),.n (.st 23 1 (.t 22))] (.seq (.r [.F 24 4 0,.l 25 4 0 1] (.block 0 (.seq (.r [.C 27 .eql 25 1,.M 26 27] (.cond (.t 26) (.skip) (.q [.C 28 .eql 25 2,.M 26 28]))) (.cond (.t 26) (.r [.F 29 4 2,.l 30 4 2 1,.C 31 .lss 30 0,.M 32 31,.g 33 (.fad 4 2) 32 false,.g 34 (.ldf 4 2 1 false) 32 false,.g 35 (.bin .gtr (.t 34) (.i 5)) 32 false,.Q 36 32 35,.M 37 36,.g 38 (.fad 4 3) 37 false,.g 39 (.ldf 4 3 1 false) 37 false,.g 40 (.lenl (.t 39)) 37 false,.g 41 (.bin .gtr (.t 40) (.i 0)) 37 false,.Q 42 37 41] (.i 42 (.v [.I 8 1]))) (.r [.C 44 .eql 25 3,.M 43 44] (.cond (.t 43) (.r [.F 45 4 2,.l 46 4 2 1,.C 47 .neq 46 0] (.i 47 (.v [.I 8 1]))) (.v [.I 8 1]))))))) (.seq (.r [.F 48 4 1,.l 49 4 1 1,.c 50 8 [.t 49],.o 51 (.un .not (.t 50))] (.i 51 (.v [.I 8 2]))) (.seq (.r [.F 52 4 3,.l 53 4 3 1,.N 54 53,.C 55 .gtr 54 8] (.i 55 (.v [.I 8 3]))) (.seq (.r [.F 56 4 3,.l 57 4 3 1,.N 58 57,.I 59 0] (.block 1 (.loop (f7l0)))) (f7r0)))))))
def f7:Qg:=⟨4,73,[.tmp 8],f7C,false⟩
@[simp] theorem f7B:f7.body=f7C∧f7.res=[.tmp 8]∧f7.keep=false:=⟨rfl,rfl,rfl⟩
def f8l0:AC:= .r [.B 40 .lss 39 38] (.seq (.x 40 0) (.seq (.block 1 (.r [.M 41 39,.M 3 41] (.r [.M 42 0,.M 43 3,.o 44 (.idx (.t 42) (.t 43)),.c 45 9 [.t 44],.o 46 (.un .not (.t 45))] (.i 46 (.v [.f 2 false]))))) (.q [.C 47 .add 39 1,.M 39 47])))
def f8r0:AC:= .v [.f 2 true]
def f8C:AC:= .r [.f 2 false] (.seq (.r [.M 4 0,.o 5 (.bin .eql (.t 4) (.c (.str []))),.M 6 5,.g 7 (.m 0) 6 false,.g 8 (.lens (.t 7)) 6 false,.g 9 (.bin .gtr (.t 8) (.i 24)) 6 false,.Q 10 6 9,.M 11 10,.g 12 (.m 0) 11 false,.g 13 (.idx (.t 12) (.i 0)) 11 false,.g 14 (.call 9 [.t 13]) 11 false,.g 15 (.un .not (.t 14)) 11 false,.Q 16 11 15,.M 17 16,.g 18 (.m 0) 17 false,.g 19 (.idx (.t 18) (.i 0)) 17 false,.g 20 (.bin .geq (.t 19) (.c (.int .u8 48))) 17 false,.g 21 (.m 20) 17 false,.g 22 (.m 0) 21 true,.g 23 (.idx (.t 22) (.i 0)) 21 true,.g 24 (.bin .leq (.t 23) (.c (.int .u8 57))) 21 true,.g 25 (.pick (.t 21) (.t 24) (.c (.bool false))) 17 false,.Q 26 17 25,.M 27 26,.g 28 (.m 0) 27 false,.g 29 (.idx (.t 28) (.i 0)) 27 false,.g 30 (.bin .eql (.t 29) (.c (.int .u8 95))) 27 false,.Q 31 27 30,.M 32 31,.g 33 (.m 0) 32 false,.g 34 (.idx (.t 33) (.i 0)) 32 false,.g 35 (.bin .eql (.t 34) (.c (.int .u8 35))) 32 false,.Q 36 32 35] (.i 36 (.v [.f 2 false]))) (.seq (.r [.M 37 0,.o 38 (.lens (.t 37)),.I 39 0] (.block 0 (.loop (f8l0)))) (f8r0)))
def f8:Qg:=⟨1,48,[.tmp 2],f8C,false⟩
@[simp] theorem f8B:f8.body=f8C∧f8.res=[.tmp 2]∧f8.keep=false:=⟨rfl,rfl,rfl⟩
def f9C:AC:= .r [.f 2 false] (.v [.M 3 0,.o 4 (.bin .geq (.t 3) (.c (.int .u8 97))),.M 5 4,.g 6 (.m 0) 5 true,.g 7 (.bin .leq (.t 6) (.c (.int .u8 122))) 5 true,.P 8 5 7,.M 9 8,.g 10 (.m 0) 9 false,.g 11 (.bin .geq (.t 10) (.c (.int .u8 65))) 9 false,.g 12 (.m 11) 9 false,.g 13 (.m 0) 12 true,.g 14 (.bin .leq (.t 13) (.c (.int .u8 90))) 12 true,.g 15 (.pick (.t 12) (.t 14) (.c (.bool false))) 9 false,.Q 16 9 15,.M 17 16,.g 18 (.m 0) 17 false,.g 19 (.bin .geq (.t 18) (.c (.int .u8 48))) 17 false,.g 20 (.m 19) 17 false,.g 21 (.m 0) 20 true,.g 22 (.bin .leq (.t 21) (.c (.int .u8 57))) 20 true,.g 23 (.pick (.t 20) (.t 22) (.c (.bool false))) 17 false,.Q 24 17 23,.M 25 24,.g 26 (.m 0) 25 false,.g 27 (.bin .eql (.t 26) (.c (.int .u8 95))) 25 false,.Q 28 25 27,.M 29 28,.g 30 (.m 0) 29 false,.g 31 (.bin .eql (.t 30) (.c (.int .u8 35))) 29 false,.Q 32 29 31,.M 2 32])
def f9:Qg:=⟨1,33,[.tmp 2],f9C,false⟩
def f16C:AC:= .r [.f 6 false] (.v [.M 7 0,.M 8 1,.B 9 .geq 7 8,.M 10 9,.g 11 (.m 0) 10 true,.g 12 (.m 2) 10 true,.g 13 (.bin .leq (.t 11) (.t 12)) 10 true,.P 14 10 13,.M 6 14])
def f16:Qg:=⟨3,15,[.tmp 6],f16C,false⟩
def f17C:AC:= .r [.T 4] (.v [.M 5 0,.o 6 (.bin .add (.t 5) (.c (.str [35]))),.M 7 1,.c 8 18 [.t 7],.B 9 .add 6 8,.c 10 5 [.t 9,.i 3],.S 4 0 4 10])
def f17:Qg:=⟨2,11,[.cell 4 4 true],f17C,false⟩
def f25C:AC:= .r [.b 3 0,.o 6 (.alloc [.str [],.int .i64 0,.sl true 6 [],.int .i64 0,.sl true 2 [],.int .i64 0,.int .i64 0]),.T 7,.T 8,.I 9 0] (.r [.L 16 3 0 7,.M 17 2,.c 18 26 [.t 16,.t 17],.M 10 18] (.seq (.block 0 (.r [.M 20 10,.C 21 .neq 20 0,.M 19 21] (.cond (.t 19) (.skip) (.r [.M 23 1,.c 24 4 [.t 23],.o 25 (.un .not (.t 24)),.M 22 25] (.cond (.t 22) (.q [.I 10 2]) (.r [.F 27 3 3,.l 28 3 3 1,.C 29 .eql 28 10000,.M 26 29] (.i 26 (.q [.I 10 3])))))))) (.seq (.r [.M 30 10,.C 31 .neq 30 0] (.i 31 (.v [.o 32 (.mkst [.str [],.int .i64 0,.gs 0 0 0 0,.int .i64 0,.gs 0 0 0 0,.int .i64 0,.int .i64 0] []),.o 33 (.mkst zG []),.o 34 (.mkst zG []),.M 35 10,.n (.stn 6 0 7 (.t 32) [.str [],.int .i64 0,.sl true 6 [],.int .i64 0,.sl true 2 [],.int .i64 0,.int .i64 0]),.n (.stn 7 0 4 (.t 33) zT),.n (.stn 8 0 4 (.t 34) zT),.M 9 35]))) (.r [.F 36 3 0,.l 37 3 0 1,.F 38 3 3,.l 39 3 3 1,.c 40 38 [.t 37,.t 39],.T 11,.S 11 0 4 40] (.seq (.z [.M 42 1,.c 43 5 [.t 42,.i 1],.L 44 11 0 4,.F 45 3 3,.l 46 3 3 1,.c 47 39 [.t 46],.M 48 2,.F 49 3 5,.l 50 3 5 1,.B 51 .add 48 50,.c 52 39 [.t 51],.o 53 (.mksl 4 [.t 43,.t 44,.t 47,.t 52]),.c 54 40 [.t 53],.M 41 54,.E 55 41 0,.E 56 41 1,.T 12,.S 12 0 4 55,.M 13 56]) (.seq (.z [.L 57 12 0 4,.F 58 3 2,.l 59 3 2 1,.F 60 3 2,.l 61 3 2 1,.N 62 61,.C 63 .sub 62 1,.X 64 6 59 63,.o 65 (.fadr 64 2),.DT 66 65 4,.o 67 (.mksl 4 [.t 57,.t 66]),.o 68 (.mkst zT [(0,1,.i 3),(1,1,.c (.str [101,110,99])),(3,1,.t 67)]),.T 14,.S 14 0 4 68]) (.r [.L 69 3 0 7,.M 70 2,.c 71 50 [.t 69,.t 70],.o 15 (.alloc [.str [],.int .i64 0,.sl true 6 [],.int .i64 0,.sl true 2 [],.int .i64 0,.int .i64 0]),.S 15 0 7 71] (.r [.F 72 15 3,.l 73 15 3 1,.C 74 .add 73 1,.F 75 15 3,.S 15 3 1 74] (.seq (.z [.L 76 15 0 7,.L 77 14 0 4,.L 78 11 0 4,.S 6 0 7 76,.S 7 0 4 77,.S 8 0 4 78,.I 9 0]) (.ret))))))))))
def f25:Qg:=⟨3,79,[.cell 6 7 true,.cell 7 4 true,.cell 8 4 true,.tmp 9],f25C,false⟩
def f26C:AC:= .r [.b 2 0,.I 4 0] (.seq (.r [.L 6 2 0 7,.c 7 27 [.t 6],.M 5 7] (.r [.M 8 5,.C 9 .neq 8 0] (.i 9 (.v [.M 10 5,.M 4 10])))) (.seq (.r [.L 11 2 0 7,.M 12 1,.c 13 37 [.t 11,.t 12]] (.i 13 (.v [.I 4 7]))) (.v [.I 4 0])))
def f26:Qg:=⟨2,14,[.tmp 4],f26C,false⟩
def f27C:AC:= .r [.b 1 0,.I 2 0] (.seq (.r [.F 3 1 0,.l 4 1 0 1,.c 5 3 [.t 4],.o 6 (.un .not (.t 5)),.M 7 6,.g 8 (.fad 1 5) 7 false,.g 9 (.ldf 1 5 1 false) 7 false,.g 10 (.call 16 [.t 9,.i 1,.i 1000]) 7 false,.g 11 (.un .not (.t 10)) 7 false,.Q 12 7 11,.M 13 12,.g 14 (.fad 1 1) 13 false,.g 15 (.ldf 1 1 1 false) 13 false,.g 16 (.call 16 [.t 15,.i 0,.i 10000]) 13 false,.g 17 (.un .not (.t 16)) 13 false,.Q 18 13 17,.M 19 18,.g 20 (.fad 1 3) 19 false,.g 21 (.ldf 1 3 1 false) 19 false,.g 22 (.call 16 [.t 21,.i 0,.i 10000]) 19 false,.g 23 (.un .not (.t 22)) 19 false,.Q 24 19 23,.M 25 24,.g 26 (.fad 1 6) 25 false,.g 27 (.ldf 1 6 1 false) 25 false,.g 28 (.call 16 [.t 27,.i 0,.i 100000]) 25 false,.g 29 (.un .not (.t 28)) 25 false,.Q 30 25 29,.M 31 30,.g 32 (.ldf 1 0 7 true) 31 false,.g 33 (.call 28 [.t 32]) 31 false,.g 34 (.un .not (.t 33)) 31 false,.Q 35 31 34,.M 36 35,.g 37 (.ldf 1 0 7 true) 36 false,.g 38 (.call 36 [.t 37]) 36 false,.g 39 (.un .not (.t 38)) 36 false,.Q 40 36 39] (.i 40 (.v [.I 2 1]))) (.v [.I 2 0]))
def f27:Qg:=⟨1,41,[.tmp 2],f27C,false⟩
@[simp] theorem f27B:f27.body=f27C∧f27.res=[.tmp 2]∧f27.keep=false:=⟨rfl,rfl,rfl⟩
def f28l0:AC:= .r [.B 15 .lss 14 13] (.seq (.x 15 0) (.seq (.block 1 (.r [.M 16 14,.X 17 6 12 14,.DT 18 17 6,.o 4 (.alloc [.int .i64 0,.int .i64 0,.int .i64 0,.str [],.int .i64 0,.sl true 4 []]),.M 3 16,.S 4 0 6 18] (.r [.M 19 3,.F 20 1 2,.l 21 1 2 1,.N 22 21,.C 23 .sub 22 1,.B 24 .eql 19 23,.M 5 24] (.seq (.seq (.z [.F 25 4 0,.l 26 4 0 1,.F 27 1 1,.l 28 1 1 1,.F 29 1 2,.l 30 1 2 1,.N 31 30,.B 32 .sub 28 31,.C 33 .add 32 1,.M 34 3,.B 35 .add 33 34,.B 36 .neq 26 35,.M 37 36,.g 38 (.fad 4 0) 37 false,.g 39 (.ldf 4 0 1 false) 37 false,.g 40 (.bin .lss (.t 39) (.i 0)) 37 false,.Q 41 37 40,.M 42 41,.g 43 (.fad 4 2) 42 false,.g 44 (.ldf 4 2 4 true) 42 false,.g 45 (.fad 1 0) 42 false,.g 46 (.ldf 1 0 1 false) 42 false,.g 47 (.fad 4 0) 42 false,.g 48 (.ldf 4 0 1 false) 42 false,.g 49 (.call 17 [.t 46,.t 48]) 42 false,.g 50 (.call 29 [.t 44,.t 49]) 42 false,.g 51 (.un .not (.t 50)) 42 false,.Q 52 42 51,.M 53 52,.g 54 (.m 5) 53 false,.g 55 (.fad 4 1) 53 false,.g 56 (.ldf 4 1 1 false) 53 false,.g 57 (.bin .eql (.t 56) (.i 0)) 53 false,.g 58 (.eqb true (.t 54) (.t 57)) 53 false,.Q 59 53 58,.M 60 59,.g 61 (.fad 4 1) 60 false,.g 62 (.ldf 4 1 1 false) 60 false,.g 63 (.bin .lss (.t 62) (.i 0)) 60 false,.Q 64 60 63]) (.i 64 (.v [.f 2 false]))) (.seq (.z [.M 65 3,.C 66 .gtr 65 0,.M 67 66,.g 68 (.m 5) 67 true,.g 69 (.un .not (.t 68)) 67 true,.P 70 67 69,.M 71 70,.g 72 (.fad 4 1) 71 true,.g 73 (.ldf 4 1 1 false) 71 true,.g 74 (.fad 1 2) 71 true,.g 75 (.ldf 1 2 1 false) 71 true,.g 76 (.m 3) 71 true,.g 77 (.bin .sub (.t 76) (.i 1)) 71 true,.g 78 (.idxa 6 (.t 75) (.t 77)) 71 true,.g 79 (.fadr 78 1) 71 true,.g 80 (.ld 79 1 false) 71 true,.g 81 (.bin .lss (.t 73) (.t 80)) 71 true,.P 82 71 81]) (.i 82 (.v [.f 2 false]))))))) (.q [.C 83 .add 14 1,.M 14 83])))
def f28r0:AC:= .v [.f 2 true]
def f28C:AC:= .r [.b 1 0,.f 2 false] (.seq (.r [.F 6 1 2,.l 7 1 2 1,.N 8 7,.c 9 16 [.t 8,.i 1,.i 8],.o 10 (.un .not (.t 9))] (.i 10 (.v [.f 2 false]))) (.seq (.r [.F 11 1 2,.l 12 1 2 1,.N 13 12,.I 14 0] (.block 0 (.loop (f28l0)))) (f28r0)))
def f28:Qg:=⟨1,84,[.tmp 2],f28C,false⟩
@[simp] theorem f28B:f28.body=f28C∧f28.res=[.tmp 2]∧f28.keep=false:=⟨rfl,rfl,rfl⟩
def f29C:AC:= .r [.b 2 0,.b 3 1,.f 4 false] (.v [.L 5 2 0 4,.L 6 3 0 4,.c 7 30 [.t 5,.t 6],.C 8 .eql 7 0,.M 4 8])
def f29:Qg:=⟨2,9,[.tmp 4],f29C,false⟩
def f30l0:AC:= .seq (.r [.M 42 5,.C 43 .eql 42 0,.M 44 43,.g 45 (.m 6) 44 true,.g 46 (.fad 2 3) 44 true,.g 47 (.ldf 2 3 1 false) 44 true,.g 48 (.lenl (.t 47)) 44 true,.g 49 (.bin .lss (.t 45) (.t 48)) 44 true,.P 50 44 49] (.x 50 0)) (.seq (.block 1 (.z [.F 53 2 3,.l 54 2 3 1,.M 55 6,.X 56 4 54 55,.DT 57 56 4,.F 58 3 3,.l 59 3 3 1,.M 60 6,.X 61 4 59 60,.DT 62 61 4,.c 63 30 [.t 57,.t 62],.M 5 63])) (.q [.M 51 6,.C 52 .add 51 1,.M 6 52]))
def f30r0:AC:= .v [.M 64 5,.M 4 64]
def f30C:AC:= .r [.b 2 0,.b 3 1,.I 4 0] (.seq (.z [.L 7 2 0 4,.c 8 31 [.t 7],.L 9 3 0 4,.c 10 31 [.t 9],.c 11 32 [.t 8,.t 10],.M 5 11]) (.seq (.r [.M 12 5,.C 13 .eql 12 0] (.i 13 (.q [.F 14 2 0,.l 15 2 0 1,.F 16 3 0,.l 17 3 0 1,.c 18 32 [.t 15,.t 17],.M 5 18]))) (.seq (.r [.M 19 5,.C 20 .eql 19 0] (.i 20 (.q [.F 21 2 1,.l 22 2 1 1,.F 23 3 1,.l 24 3 1 1,.c 25 33 [.t 22,.t 24],.M 5 25]))) (.seq (.r [.M 26 5,.C 27 .eql 26 0] (.i 27 (.q [.F 28 2 2,.l 29 2 2 1,.F 30 3 2,.l 31 3 2 1,.c 32 32 [.t 29,.t 31],.M 5 32]))) (.seq (.r [.M 33 5,.C 34 .eql 33 0] (.i 34 (.q [.F 35 2 3,.l 36 2 3 1,.N 37 36,.F 38 3 3,.l 39 3 3 1,.N 40 39,.c 41 32 [.t 37,.t 40],.M 5 41]))) (.seq (.r [.I 6 0] (.block 0 (.loop (f30l0)))) (f30r0)))))))
def f30:Qg:=⟨2,65,[.tmp 4],f30C,false⟩
@[simp] theorem f30B:f30.body=f30C∧f30.res=[.tmp 4]∧f30.keep=false:=⟨rfl,rfl,rfl⟩
def f31l0:AC:= .r [.B 10 .lss 9 8] (.seq (.x 10 0) (.seq (.block 1 (.r [.X 11 4 7 9,.DT 12 11 4,.T 5,.S 5 0 4 12] (.q [.M 13 3,.L 14 5 0 4,.c 15 31 [.t 14],.B 16 .add 13 15,.M 3 16]))) (.q [.C 17 .add 9 1,.M 9 17])))
def f31r0:AC:= .v [.M 18 3,.M 2 18]
def f31C:AC:= .r [.b 1 0,.I 2 0] (.r [.I 3 1] (.seq (.r [.F 6 1 3,.l 7 1 3 1,.N 8 7,.I 9 0] (.block 0 (.loop (f31l0)))) (f31r0)))
def f31:Qg:=⟨1,19,[.tmp 2],f31C,false⟩
@[simp] theorem f31B:f31.body=f31C∧f31.res=[.tmp 2]∧f31.keep=false:=⟨rfl,rfl,rfl⟩
def f32C:AC:= .r [.I 4 0] (.seq (.block 0 (.r [.M 6 0,.M 7 1,.B 8 .lss 6 7,.M 5 8] (.cond (.t 5) (.v [.I 4 (-1)]) (.r [.M 10 0,.M 11 1,.B 12 .gtr 10 11,.M 9 12] (.i 9 (.v [.I 4 1])))))) (.v [.I 4 0]))
def f32:Qg:=⟨2,13,[.tmp 4],f32C,false⟩
def f36l0:AC:= .r [.B 9 .lss 8 7] (.seq (.x 9 0) (.seq (.block 1 (.r [.M 10 8,.X 11 2 6 8,.DT 12 11 2,.o 4 (.alloc [.int .i64 0,.int .i64 0]),.M 3 10,.S 4 0 2 12] (.seq (.z [.F 13 4 0,.l 14 4 0 1,.C 15 .lss 14 0,.M 16 15,.g 17 (.fad 4 0) 16 false,.g 18 (.ldf 4 0 1 false) 16 false,.g 19 (.fad 1 3) 16 false,.g 20 (.ldf 1 3 1 false) 16 false,.g 21 (.bin .geq (.t 18) (.t 20)) 16 false,.Q 22 16 21,.M 23 22,.g 24 (.fad 4 1) 23 false,.g 25 (.ldf 4 1 1 false) 23 false,.g 26 (.bin .lss (.t 25) (.i 0)) 23 false,.Q 27 23 26,.M 28 27,.g 29 (.m 3) 28 false,.g 30 (.bin .gtr (.t 29) (.i 0)) 28 false,.g 31 (.m 30) 28 false,.g 32 (.fad 1 4) 31 true,.g 33 (.ldf 1 4 1 false) 31 true,.g 34 (.m 3) 31 true,.g 35 (.bin .sub (.t 34) (.i 1)) 31 true,.g 36 (.idxa 2 (.t 33) (.t 35)) 31 true,.g 37 (.fadr 36 0) 31 true,.g 38 (.ld 37 1 false) 31 true,.g 39 (.fad 4 0) 31 true,.g 40 (.ldf 4 0 1 false) 31 true,.g 41 (.bin .geq (.t 38) (.t 40)) 31 true,.g 42 (.pick (.t 31) (.t 41) (.c (.bool false))) 28 false,.Q 43 28 42]) (.i 43 (.v [.f 2 false]))))) (.q [.C 44 .add 8 1,.M 8 44])))
def f36r0:AC:= .v [.F 45 1 4,.l 46 1 4 1,.N 47 46,.C 48 .leq 47 200,.M 2 48]
def f36C:AC:= .r [.b 1 0,.f 2 false] (.seq (.r [.F 5 1 4,.l 6 1 4 1,.N 7 6,.I 8 0] (.block 0 (.loop (f36l0)))) (f36r0))
def f36:Qg:=⟨1,49,[.tmp 2],f36C,false⟩
@[simp] theorem f36B:f36.body=f36C∧f36.res=[.tmp 2]∧f36.keep=false:=⟨rfl,rfl,rfl⟩
def f37C:AC:= .r [.b 2 0,.f 4 false] (.v [.M 5 1,.F 6 2 6,.l 7 2 6 1,.c 8 16 [.t 5,.t 7,.i 100000],.o 9 (.un .not (.t 8)),.M 4 9])
def f37:Qg:=⟨2,10,[.tmp 4],f37C,false⟩
def f38C:AC:= .r [.T 4] (.v [.M 5 0,.o 6 (.bin .add (.t 5) (.c (.str [95]))),.M 7 1,.c 8 18 [.t 7],.B 9 .add 6 8,.c 10 5 [.t 9,.i 3],.S 4 0 4 10])
def f38:Qg:=⟨2,11,[.cell 4 4 true],f38C,false⟩
def f39C:AC:= .r [.T 2] (.v [.M 3 0,.c 4 18 [.t 3],.o 5 (.bin .add (.c (.str [110,35])) (.t 4)),.c 6 5 [.t 5,.i 4],.S 2 0 4 6])
def f39:Qg:=⟨1,7,[.cell 2 4 true],f39C,false⟩
def f40l0:AC:= .r [.B 20 .lss 19 18] (.seq (.x 20 0) (.seq (.block 1 (.r [.M 21 19,.M 5 21] (.r [.M 22 0,.M 23 5,.X 24 4 22 23,.DT 25 24 4,.c 26 41 [.t 25],.M 6 26] (.r [.M 27 6,.C 28 .neq 27 0] (.i 28 (.v [.o 29 (.mkst zG []),.M 30 6,.n (.stn 2 0 4 (.t 29) zT),.M 3 30])))))) (.q [.C 31 .add 19 1,.M 19 31])))
def f40r0:AC:= .v [.o 32 (.mkst zG []),.n (.stn 2 0 4 (.t 32) zT),.I 3 3]
def f40l1:AC:= .seq (.r [.M 41 8,.C 42 .geq 41 0] (.x 42 2)) (.seq (.block 3 (.z [.M 45 0,.M 46 8,.X 47 4 45 46,.DT 48 47 4,.c 49 46 [.t 48],.L 50 7 0 4,.o 51 (.mksl 4 [.t 49,.t 50]),.c 52 49 [.c (.str [112,97,105,114]),.t 51],.S 7 0 4 52])) (.q [.M 43 8,.C 44 .sub 43 1,.M 8 44]))
def f40r1:AC:= .seq (.r [.L 53 7 0 4,.c 54 41 [.t 53],.M 9 54] (.r [.M 55 9,.C 56 .neq 55 0] (.i 56 (.v [.o 57 (.mkst zG []),.M 58 9,.n (.stn 2 0 4 (.t 57) zT),.M 3 58])))) (.v [.L 59 7 0 4,.S 2 0 4 59,.I 3 0])
def f40r2:AC:= .r [.M 33 0,.M 34 4,.C 35 .sub 34 1,.X 36 4 33 35,.DT 37 36 4,.c 38 46 [.t 37],.T 7,.S 7 0 4 38] (.seq (.r [.M 39 4,.C 40 .sub 39 2,.M 8 40] (.block 2 (.loop (f40l1)))) (f40r1))
def f40C:AC:= .r [.T 2,.I 3 0] (.r [.M 10 0,.N 11 10,.M 4 11] (.seq (.r [.M 12 4,.C 13 .eql 12 0] (.i 13 (.v [.o 14 (.mkst zG []),.n (.stn 2 0 4 (.t 14) zT),.I 3 8]))) (.seq (.r [.M 15 4,.C 16 .gtr 15 400] (.i 16 (.seq (.r [.M 17 0,.N 18 17,.I 19 0] (.block 0 (.loop (f40l0)))) (f40r0)))) (f40r2))))
def f40:Qg:=⟨1,60,[.cell 2 4 true,.tmp 3],f40C,false⟩
def f41C:AC:= .r [.b 1 0,.I 2 0] (.seq (.r [.L 4 1 0 4,.c 5 6 [.t 4],.M 3 5] (.r [.M 6 3,.C 7 .neq 6 0] (.i 7 (.v [.M 8 3,.M 2 8])))) (.v [.L 9 1 0 4,.c 10 42 [.t 9],.M 2 10]))
def f41:Qg:=⟨1,11,[.tmp 2],f41C,false⟩
@[simp] theorem f41B:f41.body=f41C∧f41.res=[.tmp 2]∧f41.keep=false:=⟨rfl,rfl,rfl⟩
def f42l0:AC:= .r [.B 41 .lss 40 39] (.seq (.x 41 1) (.seq (.block 2 (.r [.X 42 4 38 40,.DT 43 42 4,.T 6,.S 6 0 4 43] (.r [.F 44 6 0,.l 45 6 0 1,.C 46 .eql 45 3,.M 47 46,.g 48 (.fad 6 2) 47 false,.g 49 (.ldf 6 2 1 false) 47 false,.g 50 (.bin .neq (.t 49) (.i 1)) 47 false,.Q 51 47 50] (.i 51 (.v [.I 2 10]))))) (.q [.C 52 .add 40 1,.M 40 52])))
def f42l1:AC:= .r [.B 65 .lss 64 63] (.seq (.x 65 3) (.seq (.block 4 (.r [.X 66 4 62 64,.DT 67 66 4,.T 8,.S 8 0 4 67] (.r [.L 68 8 0 4,.c 69 42 [.t 68],.M 9 69] (.r [.M 70 9,.C 71 .neq 70 0] (.i 71 (.v [.M 72 9,.M 2 72])))))) (.q [.C 73 .add 64 1,.M 64 73])))
def f42r0:AC:= .v [.I 2 0]
def f42r1:AC:= .seq (.r [.F 61 1 3,.l 62 1 3 1,.N 63 62,.I 64 0] (.block 3 (.loop (f42l1)))) (f42r0)
def f42C:AC:= .r [.b 1 0,.I 2 0] (.seq (.r [.F 10 1 0,.l 11 1 0 1,.C 12 .neq 11 3] (.i 12 (.v [.I 2 0]))) (.r [.F 13 1 1,.l 14 1 1 1,.c 15 43 [.t 14],.o 3 (.alloc [.str [],.int .i64 0,.int .i64 0,.int .i64 0]),.S 3 0 4 15] (.seq (.r [.F 16 3 3,.l 17 3 3 1,.C 18 .eql 17 0] (.i 18 (.v [.I 2 10]))) (.seq (.r [.F 19 1 3,.l 20 1 3 1,.N 21 20,.M 4 21] (.r [.M 22 4,.F 23 3 1,.l 24 3 1 1,.B 25 .lss 22 24,.M 26 25,.g 27 (.m 4) 26 false,.g 28 (.fad 3 2) 26 false,.g 29 (.ldf 3 2 1 false) 26 false,.g 30 (.bin .gtr (.t 27) (.t 29)) 26 false,.Q 31 26 30] (.i 31 (.v [.I 2 6])))) (.seq (.r [.F 32 1 1,.l 33 1 1 1] (.block 0 (.seq (.r [.o 35 (.bin .eql (.t 33) (.c (.str [115,107]))),.M 34 35] (.cond (.t 34) (.skip) (.q [.o 36 (.bin .eql (.t 33) (.c (.str [115,104,107]))),.M 34 36]))) (.cond (.t 34) (.r [.F 37 1 3,.l 38 1 3 1,.N 39 38,.I 40 0] (.block 1 (.loop (f42l0)))) (.r [.o 54 (.bin .eql (.t 33) (.c (.str [110,101,119]))),.M 53 54] (.i 53 (.r [.F 55 1 3,.l 56 1 3 1,.o 57 (.idxa 4 (.t 56) (.i 0)),.o 58 (.fadr 57 0),.DF 59 58 1,.C 60 .neq 59 2] (.i 60 (.v [.I 2 10]))))))))) (f42r1))))))
def f42:Qg:=⟨1,74,[.tmp 2],f42C,false⟩
@[simp] theorem f42B:f42.body=f42C∧f42.res=[.tmp 2]∧f42.keep=false:=⟨rfl,rfl,rfl⟩
def f43l0:AC:= .r [.B 8 .lss 7 6] (.seq (.x 8 0) (.seq (.block 1 (.r [.X 9 4 5 7,.DT 10 9 4,.o 4 (.alloc [.str [],.int .i64 0,.int .i64 0,.int .i64 0]),.S 4 0 4 10] (.r [.F 11 4 0,.l 12 4 0 1,.M 13 0,.B 14 .eql 12 13] (.i 14 (.v [.L 15 4 0 4,.S 2 0 4 15]))))) (.q [.C 16 .add 7 1,.M 7 16])))
def f43r0:AC:= .v [.o 17 (.mkst [.str [],.int .i64 0,.int .i64 0,.int .i64 0] []),.S 2 0 4 17]
def f43C:AC:= .r [.o 2 (.alloc [.str [],.int .i64 0,.int .i64 0,.int .i64 0])] (.seq (.r [.c 5 44 [],.N 6 5,.I 7 0] (.block 0 (.loop (f43l0)))) (f43r0))
def f43:Qg:=⟨1,18,[.cell 2 4 true],f43C,false⟩
@[simp] theorem f43B:f43.body=f43C∧f43.res=[.cell 2 4 true]∧f43.keep=false:=⟨rfl,rfl,rfl⟩
def f44C:AC:= .r [.Z 0 4] (.r [.o 1 (.galloc [.sl true 4 []])] (.r [.o 6 (.mkfn 45 [.t 1]),.M 2 6] (.r [.I 3 1,.I 4 2,.I 5 3] (.r [.M 7 2,.M 8 3,.o 9 (.callv (.t 7) [.t 8,.c (.str [112,97,105,114]),.i 2,.i 2])] (.r [.M 10 2,.M 11 3,.o 12 (.callv (.t 10) [.t 11,.c (.str [101,110,99]),.i 2,.i 2])] (.r [.M 13 2,.M 14 3,.o 15 (.callv (.t 13) [.t 14,.c (.str [97,101,110,99]),.i 2,.i 2])] (.r [.M 16 2,.M 17 3,.o 18 (.callv (.t 16) [.t 17,.c (.str [112,107]),.i 1,.i 1])] (.r [.M 19 2,.M 20 3,.o 21 (.callv (.t 19) [.t 20,.c (.str [115,105,103,110]),.i 2,.i 2])] (.r [.M 22 2,.M 23 3,.o 24 (.callv (.t 22) [.t 23,.c (.str [104,97,115,104]),.i 1,.i 1])] (.r [.M 25 2,.M 26 3,.o 27 (.callv (.t 25) [.t 26,.c (.str [120,111,114]),.i 2,.i 8])] (.r [.M 28 2,.M 29 3,.o 30 (.callv (.t 28) [.t 29,.c (.str [122,101,114,111]),.i 0,.i 0])] (.r [.M 31 2,.M 32 3,.o 33 (.callv (.t 31) [.t 32,.c (.str [101,120,112]),.i 2,.i 2])] (.r [.M 34 2,.M 35 3,.o 36 (.callv (.t 34) [.t 35,.c (.str [109,117,108]),.i 2,.i 8])] (.r [.M 37 2,.M 38 3,.o 39 (.callv (.t 37) [.t 38,.c (.str [105,110,118]),.i 1,.i 1])] (.r [.M 40 2,.M 41 3,.o 42 (.callv (.t 40) [.t 41,.c (.str [111,110,101]),.i 0,.i 0])] (.r [.M 43 2,.M 44 4,.o 45 (.callv (.t 43) [.t 44,.c (.str [115,107]),.i 1,.i 1])] (.r [.M 46 2,.M 47 4,.o 48 (.callv (.t 46) [.t 47,.c (.str [115,104,107]),.i 2,.i 2])] (.r [.M 49 2,.M 50 4,.o 51 (.callv (.t 49) [.t 50,.c (.str [110,101,119]),.i 1,.i 8])] (.r [.M 52 2,.M 53 5,.o 54 (.callv (.t 52) [.t 53,.c (.str [102,115,116]),.i 1,.i 1])] (.r [.M 55 2,.M 56 5,.o 57 (.callv (.t 55) [.t 56,.c (.str [115,110,100]),.i 1,.i 1])] (.r [.M 58 2,.M 59 5,.o 60 (.callv (.t 58) [.t 59,.c (.str [100,101,99]),.i 2,.i 2])] (.r [.M 61 2,.M 62 5,.o 63 (.callv (.t 61) [.t 62,.c (.str [97,100,101,99]),.i 2,.i 2])] (.r [.M 64 2,.M 65 5,.o 66 (.callv (.t 64) [.t 65,.c (.str [111,112,101,110]),.i 2,.i 2])] (.r [.M 67 2,.M 68 5,.o 69 (.callv (.t 67) [.t 68,.c (.str [114,101,97,100]),.i 1,.i 1])] (.v [.o 70 (.ldg 1 1 false),.o 0 (.mvs 70)])))))))))))))))))))))))))
def f44:Qg:=⟨0,71,[.tmp 0],f44C,false⟩
def f45C:AC:= .q [.o 9 (.ldm 4),.M 10 1,.M 11 2,.M 12 3,.M 13 0,.o 14 (.mkst [.str [],.int .i64 0,.int .i64 0,.int .i64 0] [(0,1,.t 10),(1,1,.t 11),(2,1,.t 12),(3,1,.t 13)]),.o 15 (.mksl 4 [.t 14]),.A 16 40 4 9 15,.n (.stm 4 16)]
def f45:Qg:=⟨5,17,[],f45C,false⟩
def f46C:AC:= .r [.b 1 0,.T 2] (.r [.L 6 1 0 4,.c 7 47 [.t 6,.c (.sl true 1 [])],.M 5 7,.E 8 5 0,.E 9 5 1,.T 3,.S 3 0 4 8,.M 4 9] (.v [.L 10 3 0 4,.S 2 0 4 10]))
def f46:Qg:=⟨1,11,[.cell 2 4 true],f46C,false⟩
def f47l0:AC:= .r [.B 11 .lss 10 9] (.seq (.x 11 0) (.seq (.block 1 (.r [.X 12 1 8 10,.DF 13 12 1,.M 7 13] (.seq (.r [.M 14 7,.C 15 .lss 14 0,.M 16 15,.g 17 (.m 7) 16 false,.g 18 (.fad 2 3) 16 false,.g 19 (.ldf 2 3 1 false) 16 false,.g 20 (.lenl (.t 19)) 16 false,.g 21 (.bin .geq (.t 17) (.t 20)) 16 false,.Q 22 16 21] (.i 22 (.v [.o 23 (.mkst zG []),.n (.stn 4 0 4 (.t 23) zT),.I 5 7]))) (.q [.F 24 2 3,.l 25 2 3 1,.M 26 7,.X 27 4 25 26,.DT 28 27 4,.S 2 0 4 28])))) (.q [.C 29 .add 10 1,.M 10 29])))
def f47r0:AC:= .v [.L 30 2 0 4,.c 31 48 [.t 30],.S 4 0 4 31,.I 5 0]
def f47C:AC:= .r [.b 2 0,.T 4,.I 5 0] (.seq (.r [.M 8 1,.N 9 8,.I 10 0] (.block 0 (.loop (f47l0)))) (f47r0))
def f47:Qg:=⟨2,32,[.cell 4 4 true,.tmp 5],f47C,false⟩
@[simp] theorem f47B:f47.body=f47C∧f47.res=[.cell 4 4 true,.tmp 5]∧f47.keep=false:=⟨rfl,rfl,rfl⟩
def f48l0:AC:= .r [.B 12 .lss 11 10] (.seq (.x 12 0) (.seq (.block 1 (.r [.X 13 4 9 11,.DT 14 13 4,.T 5,.S 5 0 4 14] (.z [.F 15 1 3,.o 16 (.ldfm 1 3),.L 17 5 0 4,.c 18 48 [.t 17],.o 19 (.mksl 4 [.t 18]),.A 20 56 4 16 19,.F 21 1 3,.n (.stfm 1 3 20)]))) (.q [.C 22 .add 11 1,.M 11 22])))
def f48r0:AC:= .v [.L 23 1 0 4,.S 2 0 4 23]
def f48C:AC:= .r [.b 1 0,.T 2] (.r [.F 6 1 3,.l 7 1 3 1,.o 3 (.mvs 7)] (.r [.F 8 1 3,.n (.stf 1 3 1 (.c (.sl true 4 [])))] (.seq (.r [.M 9 3,.N 10 9,.I 11 0] (.block 0 (.loop (f48l0)))) (f48r0))))
def f48:Qg:=⟨1,24,[.cell 2 4 true],f48C,false⟩
@[simp] theorem f48B:f48.body=f48C∧f48.res=[.cell 2 4 true]∧f48.keep=false:=⟨rfl,rfl,rfl⟩
def f49C:AC:= .r [.T 4] (.v [.M 5 0,.M 6 1,.o 7 (.mkst zT [(0,1,.i 3),(1,1,.t 5),(3,1,.t 6)]),.S 4 0 4 7])
def f49:Qg:=⟨2,8,[.cell 4 4 true],f49C,false⟩
def f50C:AC:= .r [.b 2 0,.o 4 (.alloc [.str [],.int .i64 0,.sl true 6 [],.int .i64 0,.sl true 2 [],.int .i64 0,.int .i64 0])] (.seq (.z [.F 5 2 2,.l 6 2 2 1,.c 7 51 [.t 6],.F 8 2 4,.l 9 2 4 1,.c 10 52 [.t 9],.M 11 1,.F 12 2 2,.n (.stfm 2 2 7),.F 13 2 4,.n (.stfm 2 4 10),.F 14 2 6,.S 2 6 1 11]) (.v [.L 15 2 0 7,.S 4 0 7 15]))
def f50:Qg:=⟨2,16,[.cell 4 7 true],f50C,false⟩
def f53C:AC:= .r [.b 1 0,.o 2 (.mov (.c (.str []))),.I 3 0] (.seq (.r [.L 5 1 0 4,.c 6 54 [.t 5],.M 4 6] (.r [.M 7 4,.C 8 .neq 7 0] (.i 8 (.v [.M 9 4,.o 2 (.mov (.c (.str []))),.M 3 9])))) (.v [.L 10 1 0 4,.c 11 62 [.t 10],.M 2 11,.I 3 0]))
def f53:Qg:=⟨1,12,[.tmp 2,.tmp 3],f53C,false⟩
def f54C:AC:= .r [.b 1 0,.I 2 0] (.seq (.r [.L 4 1 0 4,.c 5 55 [.t 4],.M 3 5] (.r [.M 6 3,.C 7 .neq 6 0] (.i 7 (.v [.M 8 3,.M 2 8])))) (.seq (.r [.L 9 1 0 4,.c 10 60 [.t 9],.C 11 .gtr 10 400,.M 12 11,.g 13 (.ldf 1 0 4 true) 12 false,.g 14 (.call 61 [.t 13]) 12 false,.g 15 (.bin .gtr (.t 14) (.i 40)) 12 false,.Q 16 12 15] (.i 16 (.v [.I 2 3]))) (.v [.I 2 0])))
def f54:Qg:=⟨1,17,[.tmp 2],f54C,false⟩
@[simp] theorem f54B:f54.body=f54C∧f54.res=[.tmp 2]∧f54.keep=false:=⟨rfl,rfl,rfl⟩
def f55l0:AC:= .seq (.r [.M 11 4,.F 12 1 3,.l 13 1 3 1,.N 14 13,.B 15 .lss 11 14] (.x 15 0)) (.seq (.block 1 (.r [.F 18 1 3,.l 19 1 3 1,.M 20 4,.X 21 4 19 20,.DT 22 21 4,.c 23 55 [.t 22],.M 5 23] (.r [.M 24 5,.C 25 .neq 24 0] (.i 25 (.v [.M 26 5,.M 2 26]))))) (.q [.M 16 4,.C 17 .add 16 1,.M 4 17]))
def f55r0:AC:= .v [.I 2 0]
def f55C:AC:= .r [.b 1 0,.I 2 0] (.seq (.r [.L 6 1 0 4,.c 7 56 [.t 6],.M 3 7] (.r [.M 8 3,.C 9 .neq 8 0] (.i 9 (.v [.M 10 3,.M 2 10])))) (.seq (.r [.I 4 0] (.block 0 (.loop (f55l0)))) (f55r0)))
def f55:Qg:=⟨1,27,[.tmp 2],f55C,false⟩
@[simp] theorem f55B:f55.body=f55C∧f55.res=[.tmp 2]∧f55.keep=false:=⟨rfl,rfl,rfl⟩
def f56C:AC:= .r [.b 1 0,.I 2 0] (.r [.F 4 1 0,.l 5 1 0 1,.C 6 .eql 5 1,.M 7 6,.g 8 (.fad 1 0) 7 false,.g 9 (.ldf 1 0 1 false) 7 false,.g 10 (.bin .eql (.t 9) (.i 2)) 7 false,.Q 11 7 10,.M 3 11] (.seq (.r [.M 12 3,.o 13 (.un .not (.t 12)),.M 14 13,.g 15 (.fad 1 0) 14 true,.g 16 (.ldf 1 0 1 false) 14 true,.g 17 (.bin .neq (.t 16) (.i 3)) 14 true,.P 18 14 17,.M 19 18,.g 20 (.fad 1 2) 19 false,.g 21 (.ldf 1 2 1 false) 19 false,.g 22 (.bin .lss (.t 21) (.i 0)) 19 false,.Q 23 19 22,.M 24 23,.g 25 (.fad 1 2) 24 false,.g 26 (.ldf 1 2 1 false) 24 false,.g 27 (.bin .gtr (.t 26) (.i 5)) 24 false,.Q 28 24 27,.M 29 28,.g 30 (.m 3) 29 false,.g 31 (.un .not (.t 30)) 29 false,.g 32 (.m 31) 29 false,.g 33 (.fad 1 2) 32 true,.g 34 (.ldf 1 2 1 false) 32 true,.g 35 (.bin .neq (.t 34) (.i 0)) 32 true,.g 36 (.pick (.t 32) (.t 35) (.c (.bool false))) 29 false,.Q 37 29 36,.M 38 37,.g 39 (.m 3) 38 false,.g 40 (.m 39) 38 false,.g 41 (.fad 1 3) 40 true,.g 42 (.ldf 1 3 1 false) 40 true,.g 43 (.lenl (.t 42)) 40 true,.g 44 (.bin .gtr (.t 43) (.i 0)) 40 true,.g 45 (.pick (.t 40) (.t 44) (.c (.bool false))) 38 false,.Q 46 38 45] (.i 46 (.v [.I 2 1]))) (.seq (.r [.F 47 1 1,.l 48 1 1 1,.c 49 57 [.t 48],.o 50 (.un .not (.t 49))] (.i 50 (.v [.I 2 2]))) (.seq (.r [.F 51 1 3,.l 52 1 3 1,.N 53 52,.C 54 .gtr 53 8] (.i 54 (.v [.I 2 3]))) (.v [.I 2 0])))))
def f56:Qg:=⟨1,55,[.tmp 2],f56C,false⟩
@[simp] theorem f56B:f56.body=f56C∧f56.res=[.tmp 2]∧f56.keep=false:=⟨rfl,rfl,rfl⟩
def f57l0:AC:= .seq (.r [.M 18 3,.M 19 0,.o 20 (.lens (.t 19)),.B 21 .lss 18 20] (.x 21 0)) (.seq (.block 1 (.r [.M 24 0,.M 25 3,.o 26 (.idx (.t 24) (.t 25)),.c 27 58 [.t 26],.o 28 (.un .not (.t 27)),.M 29 28,.g 30 (.m 0) 29 true,.g 31 (.m 3) 29 true,.g 32 (.idx (.t 30) (.t 31)) 29 true,.g 33 (.call 59 [.t 32]) 29 true,.g 34 (.un .not (.t 33)) 29 true,.P 35 29 34,.M 36 35,.g 37 (.m 0) 36 true,.g 38 (.m 3) 36 true,.g 39 (.idx (.t 37) (.t 38)) 36 true,.g 40 (.bin .neq (.t 39) (.c (.int .u8 95))) 36 true,.P 41 36 40,.M 42 41,.g 43 (.m 0) 42 true,.g 44 (.m 3) 42 true,.g 45 (.idx (.t 43) (.t 44)) 42 true,.g 46 (.bin .neq (.t 45) (.c (.int .u8 35))) 42 true,.P 47 42 46] (.i 47 (.v [.f 2 false])))) (.q [.M 22 3,.C 23 .add 22 1,.M 3 23]))
def f57r0:AC:= .v [.f 2 true]
def f57C:AC:= .r [.f 2 false] (.seq (.r [.M 4 0,.o 5 (.lens (.t 4)),.C 6 .eql 5 0,.M 7 6,.g 8 (.m 0) 7 false,.g 9 (.lens (.t 8)) 7 false,.g 10 (.bin .gtr (.t 9) (.i 24)) 7 false,.Q 11 7 10,.M 12 11,.g 13 (.m 0) 12 false,.g 14 (.idx (.t 13) (.i 0)) 12 false,.g 15 (.call 58 [.t 14]) 12 false,.g 16 (.un .not (.t 15)) 12 false,.Q 17 12 16] (.i 17 (.v [.f 2 false]))) (.seq (.r [.I 3 0] (.block 0 (.loop (f57l0)))) (f57r0)))
def f57:Qg:=⟨1,48,[.tmp 2],f57C,false⟩
@[simp] theorem f57B:f57.body=f57C∧f57.res=[.tmp 2]∧f57.keep=false:=⟨rfl,rfl,rfl⟩
def f58C:AC:= .r [.f 2 false] (.v [.M 3 0,.o 4 (.bin .geq (.t 3) (.c (.int .u8 97))),.M 5 4,.g 6 (.m 0) 5 true,.g 7 (.bin .leq (.t 6) (.c (.int .u8 122))) 5 true,.P 8 5 7,.M 9 8,.g 10 (.m 0) 9 false,.g 11 (.bin .geq (.t 10) (.c (.int .u8 65))) 9 false,.g 12 (.m 11) 9 false,.g 13 (.m 0) 12 true,.g 14 (.bin .leq (.t 13) (.c (.int .u8 90))) 12 true,.g 15 (.pick (.t 12) (.t 14) (.c (.bool false))) 9 false,.Q 16 9 15,.M 2 16])
def f58:Qg:=⟨1,17,[.tmp 2],f58C,false⟩
def f59C:AC:= .r [.f 2 false] (.v [.M 3 0,.o 4 (.bin .geq (.t 3) (.c (.int .u8 48))),.M 5 4,.g 6 (.m 0) 5 true,.g 7 (.bin .leq (.t 6) (.c (.int .u8 57))) 5 true,.P 8 5 7,.M 2 8])
def f59:Qg:=⟨1,9,[.tmp 2],f59C,false⟩
def f60l0:AC:= .seq (.r [.M 5 4,.F 6 1 3,.l 7 1 3 1,.N 8 7,.B 9 .lss 5 8] (.x 9 0)) (.seq (.block 1 (.q [.M 12 3,.F 13 1 3,.l 14 1 3 1,.M 15 4,.X 16 4 14 15,.DT 17 16 4,.c 18 60 [.t 17],.B 19 .add 12 18,.M 3 19])) (.q [.M 10 4,.C 11 .add 10 1,.M 4 11]))
def f60r0:AC:= .v [.M 20 3,.M 2 20]
def f60C:AC:= .r [.b 1 0,.I 2 0] (.r [.I 3 1] (.seq (.r [.I 4 0] (.block 0 (.loop (f60l0)))) (f60r0)))
def f60:Qg:=⟨1,21,[.tmp 2],f60C,false⟩
@[simp] theorem f60B:f60.body=f60C∧f60.res=[.tmp 2]∧f60.keep=false:=⟨rfl,rfl,rfl⟩
def f61l0:AC:= .seq (.r [.M 5 4,.F 6 1 3,.l 7 1 3 1,.N 8 7,.B 9 .lss 5 8] (.x 9 0)) (.seq (.block 1 (.q [.M 12 3,.F 13 1 3,.l 14 1 3 1,.M 15 4,.X 16 4 14 15,.DT 17 16 4,.c 18 61 [.t 17],.o 19 (.mx (.t 12) (.t 18)),.M 3 19])) (.q [.M 10 4,.C 11 .add 10 1,.M 4 11]))
def f61r0:AC:= .v [.M 20 3,.C 21 .add 20 1,.M 2 21]
def f61C:AC:= .r [.b 1 0,.I 2 0] (.r [.I 3 0] (.seq (.r [.I 4 0] (.block 0 (.loop (f61l0)))) (f61r0)))
def f61:Qg:=⟨1,22,[.tmp 2],f61C,false⟩
@[simp] theorem f61B:f61.body=f61C∧f61.res=[.tmp 2]∧f61.keep=false:=⟨rfl,rfl,rfl⟩
def f62l0:AC:= .seq (.r [.M 35 4,.F 36 1 3,.l 37 1 3 1,.N 38 37,.B 39 .lss 35 38] (.x 39 1)) (.seq (.block 2 (.seq (.r [.M 42 4,.C 43 .gtr 42 0] (.i 43 (.q [.M 44 3,.o 45 (.bin .add (.t 44) (.c (.str [44,32]))),.M 3 45]))) (.q [.M 46 3,.F 47 1 3,.l 48 1 3 1,.M 49 4,.X 50 4 48 49,.DT 51 50 4,.c 52 62 [.t 51],.B 53 .add 46 52,.M 3 53]))) (.q [.M 40 4,.C 41 .add 40 1,.M 4 41]))
def f62r0:AC:= .v [.M 54 3,.o 55 (.bin .add (.t 54) (.c (.str [41]))),.M 2 55]
def f62C:AC:= .r [.b 1 0,.o 2 (.mov (.c (.str [])))] (.seq (.r [.F 5 1 0,.l 6 1 0 1] (.block 0 (.r [.C 8 .eql 6 1,.M 7 8] (.cond (.t 7) (.seq (.r [.F 9 1 2,.l 10 1 2 1,.C 11 .eql 10 0] (.i 11 (.v [.F 12 1 1,.l 13 1 1 1,.o 14 (.bin .add (.c (.str [63])) (.t 13)),.M 2 14]))) (.seq (.z [.F 15 1 1,.l 16 1 1 1,.o 17 (.bin .add (.c (.str [63])) (.t 16)),.o 18 (.bin .add (.t 17) (.c (.str [58]))),.F 19 1 2,.l 20 1 2 1,.c 21 63 [.t 20],.B 22 .add 18 21,.M 2 22]) (.ret))) (.r [.C 24 .eql 6 2,.M 23 24] (.i 23 (.seq (.z [.F 25 1 1,.l 26 1 1 1,.o 27 (.bin .add (.t 26) (.c (.str [58]))),.F 28 1 2,.l 29 1 2 1,.c 30 63 [.t 29],.B 31 .add 27 30,.M 2 31]) (.ret)))))))) (.r [.F 32 1 1,.l 33 1 1 1,.o 34 (.bin .add (.t 33) (.c (.str [40]))),.M 3 34] (.seq (.r [.I 4 0] (.block 1 (.loop (f62l0)))) (f62r0))))
def f62:Qg:=⟨1,56,[.tmp 2],f62C,false⟩
def f63C:AC:= .r [.o 2 (.mov (.c (.str [])))] (.v [.o 3 (.mksl 1 [.c (.str [97,110,121]),.c (.str [97,103,101,110,116]),.c (.str [110,111,110,99,101]),.c (.str [107,101,121]),.c (.str [100,97,116,97]),.c (.str [116,97,103])]),.M 4 0,.X 5 1 3 4,.DF 6 5 1,.M 2 6])
def f63:Qg:=⟨1,7,[.tmp 2],f63C,false⟩
def f64C:AC:= .r [.b 2 0,.o 4 (.alloc [.str [],.int .i64 0,.sl true 6 [],.int .i64 0,.sl true 2 [],.int .i64 0,.int .i64 0]),.I 5 0] (.seq (.r [.L 8 2 0 7,.M 9 1,.c 10 26 [.t 8,.t 9],.M 6 10] (.r [.M 11 6,.C 12 .neq 11 0] (.i 12 (.v [.o 13 (.mkst [.str [],.int .i64 0,.gs 0 0 0 0,.int .i64 0,.gs 0 0 0 0,.int .i64 0,.int .i64 0] []),.M 14 6,.n (.stn 4 0 7 (.t 13) [.str [],.int .i64 0,.sl true 6 [],.int .i64 0,.sl true 2 [],.int .i64 0,.int .i64 0]),.M 5 14])))) (.seq (.r [.F 15 2 2,.l 16 2 2 1,.N 17 16,.C 18 .eql 17 8,.M 19 18,.g 20 (.fad 2 1) 19 false,.g 21 (.ldf 2 1 1 false) 19 false,.g 22 (.bin .eql (.t 21) (.i 10000)) 19 false,.Q 23 19 22] (.i 23 (.v [.o 24 (.mkst [.str [],.int .i64 0,.gs 0 0 0 0,.int .i64 0,.gs 0 0 0 0,.int .i64 0,.int .i64 0] []),.n (.stn 4 0 7 (.t 24) [.str [],.int .i64 0,.sl true 6 [],.int .i64 0,.sl true 2 [],.int .i64 0,.int .i64 0]),.I 5 3]))) (.r [.L 25 2 0 7,.M 26 1,.c 27 65 [.t 25,.t 26],.o 7 (.alloc [.str [],.int .i64 0,.sl true 6 [],.int .i64 0,.sl true 2 [],.int .i64 0,.int .i64 0]),.S 7 0 7 27] (.r [.F 28 7 2,.l 29 7 2 1,.F 30 7 2,.l 31 7 2 1,.N 32 31,.C 33 .sub 32 1,.M 34 1,.F 35 2 5,.l 36 2 5 1,.B 37 .add 34 36,.X 38 6 29 33,.o 39 (.fadr 38 1),.n (.st 39 1 (.t 37))] (.r [.F 40 7 1,.l 41 7 1 1,.C 42 .add 41 1,.F 43 7 1,.S 7 1 1 42] (.seq (.z [.F 44 7 2,.l 45 7 2 1,.F 46 7 1,.l 47 7 1 1,.F 48 2 0,.l 49 2 0 1,.F 50 7 1,.l 51 7 1 1,.c 52 17 [.t 49,.t 51],.o 53 (.mkst [.int .i64 0,.int .i64 0,.int .i64 0,.str [],.int .i64 0,.sl true 4 []] [(0,1,.t 47),(2,4,.t 52)]),.o 54 (.mksl 6 [.t 53]),.o 55 (.appz 72 6 45 (.t 54)),.F 56 7 2,.n (.stfm 7 2 55)]) (.v [.L 57 7 0 7,.S 4 0 7 57,.I 5 0])))))))
def f64:Qg:=⟨2,58,[.cell 4 7 true,.tmp 5],f64C,false⟩
def f65C:AC:= .r [.b 2 0,.o 4 (.alloc [.str [],.int .i64 0,.sl true 6 [],.int .i64 0,.sl true 2 [],.int .i64 0,.int .i64 0])] (.seq (.z [.F 5 2 2,.l 6 2 2 1,.c 7 66 [.t 6],.F 8 2 4,.l 9 2 4 1,.c 10 52 [.t 9],.M 11 1,.F 12 2 2,.S 2 2 1 7,.F 13 2 4,.n (.stfm 2 4 10),.F 14 2 6,.S 2 6 1 11]) (.v [.L 15 2 0 7,.S 4 0 7 15]))
def f65:Qg:=⟨2,16,[.cell 4 7 true],f65C,true⟩
def f67C:AC:= .r [.b 3 0,.b 4 1,.o 6 (.alloc [.str [],.int .i64 0,.sl true 6 [],.int .i64 0,.sl true 2 [],.int .i64 0,.int .i64 0]),.T 7,.I 8 0] (.r [.L 14 3 0 7,.M 15 2,.c 16 26 [.t 14,.t 15],.M 9 16] (.r [.o 10 (.alloc [.str [],.int .i64 0,.str [],.int .i64 0,.sl true 4 [],.int .i64 0,.int .i64 0])] (.seq (.r [.M 17 9,.C 18 .eql 17 0] (.i 18 (.q [.L 20 3 0 7,.L 21 4 0 4,.c 22 68 [.t 20,.t 21],.M 19 22,.E 23 19 0,.E 24 19 1,.S 10 0 7 23,.M 9 24]))) (.seq (.r [.M 25 9,.C 26 .eql 25 0] (.i 26 (.q [.L 27 3 0 7,.L 28 10 0 7,.M 29 2,.c 30 82 [.t 27,.t 28,.t 29],.M 9 30]))) (.seq (.r [.M 31 9,.C 32 .neq 31 0] (.i 32 (.v [.o 33 (.mkst [.str [],.int .i64 0,.gs 0 0 0 0,.int .i64 0,.gs 0 0 0 0,.int .i64 0,.int .i64 0] []),.o 34 (.mkst zG []),.M 35 9,.n (.stn 6 0 7 (.t 33) [.str [],.int .i64 0,.sl true 6 [],.int .i64 0,.sl true 2 [],.int .i64 0,.int .i64 0]),.n (.stn 7 0 4 (.t 34) zT),.M 8 35]))) (.r [.L 36 3 0 7,.M 37 2,.c 38 86 [.t 36,.t 37],.o 11 (.alloc [.str [],.int .i64 0,.sl true 6 [],.int .i64 0,.sl true 2 [],.int .i64 0,.int .i64 0]),.S 11 0 7 38] (.r [.L 40 3 0 7,.F 41 10 5,.l 42 10 5 1,.c 43 83 [.t 40,.t 42],.M 39 43,.E 44 39 0,.E 45 39 1,.M 12 44,.M 13 45] (.r [.F 46 11 4,.l 47 11 4 1,.M 48 12,.F 49 10 5,.l 50 10 5 1,.F 51 10 6,.l 52 10 6 1,.o 53 (.mkst [.int .i64 0,.int .i64 0] [(0,1,.t 50),(1,1,.t 52)]),.o 54 (.mksl 2 [.t 53]),.c 55 141 [.t 47,.t 48,.t 54],.F 56 11 4,.n (.stfm 11 4 55)] (.seq (.z [.L 57 11 0 7,.F 58 10 1,.L 59 10 1 4,.S 6 0 7 57,.S 7 0 4 59,.I 8 0]) (.ret))))))))))
def f67:Qg:=⟨3,60,[.cell 6 7 true,.cell 7 4 true,.tmp 8],f67C,false⟩
def f68C:AC:= .r [.b 2 0,.b 3 1,.o 4 (.alloc [.str [],.int .i64 0,.str [],.int .i64 0,.sl true 4 [],.int .i64 0,.int .i64 0]),.I 5 0] (.seq (.r [.L 10 2 0 7,.c 11 27 [.t 10],.M 6 11] (.r [.M 12 6,.C 13 .neq 12 0] (.i 13 (.v [.o 14 (.mkst [.str [],.int .i64 0,.str [],.int .i64 0,.gs 0 0 0 0,.int .i64 0,.int .i64 0] []),.M 15 6,.n (.stn 4 0 7 (.t 14) [.str [],.int .i64 0,.str [],.int .i64 0,.sl true 4 [],.int .i64 0,.int .i64 0]),.M 5 15])))) (.r [.L 17 3 0 4,.c 18 69 [.t 17],.M 16 18,.E 19 16 0,.E 20 16 1,.E 21 16 2,.o 7 (.alloc [.str [],.int .i64 0,.str [],.int .i64 0,.sl true 4 [],.int .i64 0,.int .i64 0]),.o 8 (.galloc zT),.S 7 0 7 19,.n (.st 8 4 (.t 20)),.M 9 21] (.seq (.block 0 (.r [.M 23 9,.o 24 (.un .not (.t 23)),.M 22 24] (.cond (.t 22) (.v [.o 25 (.mkst [.str [],.int .i64 0,.str [],.int .i64 0,.gs 0 0 0 0,.int .i64 0,.int .i64 0] []),.n (.stn 4 0 7 (.t 25) [.str [],.int .i64 0,.str [],.int .i64 0,.sl true 4 [],.int .i64 0,.int .i64 0]),.I 5 10]) (.r [.F 27 2 2,.l 28 2 2 1,.o 29 (.mkfn 79 [.t 8]),.c 30 80 [.t 28,.t 29],.o 31 (.un .not (.t 30)),.M 26 31] (.i 26 (.v [.o 32 (.mkst [.str [],.int .i64 0,.str [],.int .i64 0,.gs 0 0 0 0,.int .i64 0,.int .i64 0] []),.n (.stn 4 0 7 (.t 32) [.str [],.int .i64 0,.str [],.int .i64 0,.sl true 4 [],.int .i64 0,.int .i64 0]),.I 5 4])))))) (.v [.L 33 7 0 7,.S 4 0 7 33,.I 5 0]))))
def f68:Qg:=⟨2,34,[.cell 4 7 true,.tmp 5],f68C,false⟩
def f69C:AC:= .r [.b 1 0,.o 2 (.alloc [.str [],.int .i64 0,.str [],.int .i64 0,.sl true 4 [],.int .i64 0,.int .i64 0]),.T 3,.f 4 false] (.seq (.r [.L 10 1 0 4,.c 11 41 [.t 10],.C 12 .neq 11 0,.M 13 12,.g 14 (.fad 1 0) 13 false,.g 15 (.ldf 1 0 1 false) 13 false,.g 16 (.bin .neq (.t 15) (.i 3)) 13 false,.Q 17 13 16,.M 18 17,.g 19 (.fad 1 1) 18 false,.g 20 (.ldf 1 1 1 false) 18 false,.g 21 (.bin .neq (.t 20) (.c (.str [101,110,99]))) 18 false,.Q 22 18 21] (.i 22 (.v [.o 23 (.mkst [.str [],.int .i64 0,.str [],.int .i64 0,.gs 0 0 0 0,.int .i64 0,.int .i64 0] []),.o 24 (.mkst zG []),.n (.stn 2 0 7 (.t 23) [.str [],.int .i64 0,.str [],.int .i64 0,.sl true 4 [],.int .i64 0,.int .i64 0]),.n (.stn 3 0 4 (.t 24) zT),.f 4 false]))) (.r [.F 25 1 3,.l 26 1 3 1,.o 27 (.idxa 4 (.t 26) (.i 0)),.DT 28 27 4,.c 29 70 [.t 28],.o 5 (.mvs 29)] (.seq (.r [.M 30 5,.N 31 30,.C 32 .neq 31 4,.M 33 32,.g 34 (.m 5) 33 false,.g 35 (.idxa 4 (.t 34) (.i 0)) 33 false,.g 36 (.fadr 35 0) 33 false,.g 37 (.ld 36 1 false) 33 false,.g 38 (.bin .neq (.t 37) (.i 2)) 33 false,.Q 39 33 38,.M 40 39,.g 41 (.m 5) 40 false,.g 42 (.idxa 4 (.t 41) (.i 0)) 40 false,.g 43 (.fadr 42 2) 40 false,.g 44 (.ld 43 1 false) 40 false,.g 45 (.bin .neq (.t 44) (.i 1)) 40 false,.Q 46 40 45,.M 47 46,.g 48 (.m 5) 47 false,.g 49 (.idxa 4 (.t 48) (.i 1)) 47 false,.g 50 (.fadr 49 0) 47 false,.g 51 (.ld 50 1 false) 47 false,.g 52 (.bin .neq (.t 51) (.i 2)) 47 false,.Q 53 47 52,.M 54 53,.g 55 (.m 5) 54 false,.g 56 (.idxa 4 (.t 55) (.i 1)) 54 false,.g 57 (.fadr 56 2) 54 false,.g 58 (.ld 57 1 false) 54 false,.g 59 (.bin .neq (.t 58) (.i 3)) 54 false,.Q 60 54 59] (.i 60 (.v [.o 61 (.mkst [.str [],.int .i64 0,.str [],.int .i64 0,.gs 0 0 0 0,.int .i64 0,.int .i64 0] []),.o 62 (.mkst zG []),.n (.stn 2 0 7 (.t 61) [.str [],.int .i64 0,.str [],.int .i64 0,.sl true 4 [],.int .i64 0,.int .i64 0]),.n (.stn 3 0 4 (.t 62) zT),.f 4 false]))) (.r [.M 64 5,.o 65 (.idxa 4 (.t 64) (.i 2)),.DT 66 65 4,.c 67 72 [.t 66],.M 63 67,.E 68 63 0,.E 69 63 1,.M 6 68,.M 7 69] (.r [.M 71 5,.o 72 (.idxa 4 (.t 71) (.i 3)),.DT 73 72 4,.c 74 72 [.t 73],.M 70 74,.E 75 70 0,.E 76 70 1,.M 8 75,.M 9 76] (.seq (.z [.M 77 5,.o 78 (.idxa 4 (.t 77) (.i 0)),.o 79 (.fadr 78 1),.DF 80 79 1,.M 81 5,.o 82 (.idxa 4 (.t 81) (.i 1)),.DT 83 82 4,.M 84 6,.M 85 8,.o 86 (.mkst [.str [],.int .i64 0,.str [],.int .i64 0,.sl true 4 [],.int .i64 0,.int .i64 0] [(0,1,.t 80),(1,4,.t 83),(5,1,.t 84),(6,1,.t 85)]),.F 87 1 3,.l 88 1 3 1,.o 89 (.idxa 4 (.t 88) (.i 1)),.DT 90 89 4,.M 91 7,.M 92 91,.g 93 (.m 9) 92 true,.P 94 92 93,.S 2 0 7 86,.S 3 0 4 90,.M 4 94]) (.ret)))))))
def f69:Qg:=⟨1,95,[.cell 2 7 true,.cell 3 4 true,.tmp 4],f69C,false⟩
def f70l0:AC:= .seq (.r [.L 4 1 0 4,.c 5 71 [.t 4,.c (.str [112,97,105,114])],.M 6 5,.g 7 (.fad 1 3) 6 true,.g 8 (.ldf 1 3 1 false) 6 true,.g 9 (.lenl (.t 8)) 6 true,.g 10 (.bin .eql (.t 9) (.i 2)) 6 true,.P 11 6 10] (.x 11 0)) (.block 1 (.r [.o 12 (.mvs 3),.F 13 1 3,.l 14 1 3 1,.o 15 (.idxa 4 (.t 14) (.i 0)),.DT 16 15 4,.c 17 46 [.t 16],.o 18 (.mksl 4 [.t 17]),.A 19 56 4 12 18,.o 3 (.mvs 19)] (.q [.F 20 1 3,.l 21 1 3 1,.o 22 (.idxa 4 (.t 21) (.i 1)),.DT 23 22 4,.S 1 0 4 23])))
def f70r0:AC:= .v [.o 24 (.mvs 3),.L 25 1 0 4,.c 26 46 [.t 25],.o 27 (.mksl 4 [.t 26]),.A 28 56 4 24 27,.o 2 (.mvs 28)]
def f70C:AC:= .r [.b 1 0,.Z 2 4] (.r [.Z 3 4] (.seq (.block 0 (.loop (f70l0))) (f70r0)))
def f70:Qg:=⟨1,29,[.tmp 2],f70C,false⟩
def f71C:AC:= .r [.b 2 0,.f 4 false] (.v [.F 5 2 0,.l 6 2 0 1,.C 7 .eql 6 3,.M 8 7,.g 9 (.fad 2 1) 8 true,.g 10 (.ldf 2 1 1 false) 8 true,.g 11 (.m 1) 8 true,.g 12 (.bin .eql (.t 10) (.t 11)) 8 true,.P 13 8 12,.M 4 13])
def f71:Qg:=⟨2,14,[.tmp 4],f71C,false⟩
def f72C:AC:= .r [.b 1 0,.I 2 0,.f 3 false] (.r [.F 9 1 1,.l 10 1 1 1,.c 11 73 [.t 10,.c (.str [110,35])],.M 8 11,.E 12 8 0,.E 13 8 1,.M 4 12,.M 5 13] (.r [.M 15 4,.c 16 76 [.t 15],.M 14 16,.E 17 14 0,.E 18 14 1,.M 6 17,.M 7 18] (.seq (.z [.M 19 6,.M 20 5,.M 21 20,.g 22 (.m 7) 21 true,.g 23 (.eqn false (.t 22)) 21 true,.P 24 21 23,.M 25 24,.g 26 (.m 6) 25 true,.g 27 (.call 16 [.t 26,.i 0,.i 1000000]) 25 true,.P 28 25 27,.M 29 28,.g 30 (.ldf 1 0 4 true) 29 true,.g 31 (.m 6) 29 true,.g 32 (.call 39 [.t 31]) 29 true,.g 33 (.call 29 [.t 30,.t 32]) 29 true,.P 34 29 33,.M 2 19,.M 3 34]) (.ret))))
def f72:Qg:=⟨1,35,[.tmp 2,.tmp 3],f72C,false⟩
def f73C:AC:= .r [.o 4 (.mov (.c (.str []))),.f 5 false] (.v [.M 6 0,.M 7 1,.c 8 74 [.t 6,.t 7],.E 9 8 0,.E 10 8 1,.M 4 9,.M 5 10])
def f73:Qg:=⟨2,11,[.tmp 4,.tmp 5],f73C,false⟩
@[simp] theorem f73B:f73.body=f73C∧f73.res=[.tmp 4,.tmp 5]∧f73.keep=false:=⟨rfl,rfl,rfl⟩
def f74C:AC:= .r [.o 4 (.mov (.c (.str []))),.f 5 false] (.seq (.r [.M 6 0,.M 7 1,.c 8 75 [.t 6,.t 7],.o 9 (.un .not (.t 8))] (.i 9 (.v [.M 10 0,.M 4 10,.f 5 false]))) (.v [.M 11 0,.M 12 1,.o 13 (.lens (.t 12)),.o 14 (.slcs (.t 11) (some (.t 13)) none),.M 4 14,.f 5 true]))
def f74:Qg:=⟨2,15,[.tmp 4,.tmp 5],f74C,false⟩
@[simp] theorem f74B:f74.body=f74C∧f74.res=[.tmp 4,.tmp 5]∧f74.keep=false:=⟨rfl,rfl,rfl⟩
def f75C:AC:= .r [.f 4 false] (.v [.M 5 0,.o 6 (.lens (.t 5)),.M 7 1,.o 8 (.lens (.t 7)),.B 9 .geq 6 8,.M 10 9,.g 11 (.m 0) 10 true,.g 12 (.m 1) 10 true,.g 13 (.lens (.t 12)) 10 true,.g 14 (.slcs (.t 11) none (some (.t 13))) 10 true,.g 15 (.m 1) 10 true,.g 16 (.bin .eql (.t 14) (.t 15)) 10 true,.P 17 10 16,.M 4 17])
def f75:Qg:=⟨2,18,[.tmp 4],f75C,false⟩
@[simp] theorem f75B:f75.body=f75C∧f75.res=[.tmp 4]∧f75.keep=false:=⟨rfl,rfl,rfl⟩
def f79C:AC:= .r [.b 2 0,.f 3 false] (.v [.F 4 2 2,.L 5 2 2 4,.o 6 (.ldg 1 4 true),.c 7 29 [.t 5,.t 6],.M 3 7])
def f79:Qg:=⟨2,8,[.tmp 3],f79C,false⟩
def f80C:AC:= .r [.f 4 false] (.v [.M 5 0,.M 6 1,.c 7 81 [.t 5,.t 6],.C 8 .geq 7 0,.M 4 8])
def f80:Qg:=⟨2,9,[.tmp 4],f80C,false⟩
def f81l0:AC:= .r [.B 9 .lss 8 7] (.seq (.x 9 0) (.seq (.block 1 (.r [.M 10 8,.M 5 10] (.r [.M 11 1,.M 12 0,.M 13 5,.X 14 6 12 13,.DT 15 14 6,.o 16 (.callv (.t 11) [.t 15])] (.i 16 (.v [.M 17 5,.M 4 17]))))) (.q [.C 18 .add 8 1,.M 8 18])))
def f81r0:AC:= .v [.I 4 (-1)]
def f81C:AC:= .r [.I 4 0] (.seq (.r [.M 6 0,.N 7 6,.I 8 0] (.block 0 (.loop (f81l0)))) (f81r0))
def f81:Qg:=⟨2,19,[.tmp 4],f81C,false⟩
def f82C:AC:= .r [.b 3 0,.b 4 1,.I 6 0] (.r [.L 10 3 0 7,.F 11 4 5,.l 12 4 5 1,.c 13 83 [.t 10,.t 12],.M 9 13,.E 14 9 0,.E 15 9 1,.M 7 14,.M 8 15] (.seq (.block 0 (.r [.F 17 4 5,.l 18 4 5 1,.F 19 3 3,.l 20 3 3 1,.B 21 .geq 18 20,.M 16 21] (.cond (.t 16) (.v [.I 6 22]) (.r [.M 23 2,.F 24 4 6,.l 25 4 6 1,.B 26 .gtr 23 25,.M 22 26] (.cond (.t 22) (.v [.I 6 20]) (.r [.M 28 8,.M 27 28] (.cond (.t 27) (.v [.I 6 21]) (.r [.F 30 3 4,.l 31 3 4 1,.N 32 31,.C 33 .eql 32 200,.M 29 33] (.i 29 (.v [.I 6 3])))))))))) (.v [.I 6 0])))
def f82:Qg:=⟨3,34,[.tmp 6],f82C,false⟩
def f83C:AC:= .r [.b 2 0,.I 4 0,.f 5 false] (.v [.F 6 2 4,.l 7 2 4 1,.M 8 1,.c 9 85 [.t 7,.t 8,.c (.fn 84 [])],.E 10 9 0,.E 11 9 1,.M 4 10,.M 5 11])
def f83:Qg:=⟨2,12,[.tmp 4,.tmp 5],f83C,false⟩
def f84C:AC:= .r [.b 2 0,.I 4 0] (.v [.F 5 2 0,.l 6 2 0 1,.M 7 1,.B 8 .sub 6 7,.M 4 8])
def f84:Qg:=⟨2,9,[.tmp 4],f84C,false⟩
def f85l0:AC:= .seq (.r [.M 15 9,.M 16 10,.B 17 .lss 15 16] (.x 17 0)) (.block 1 (.r [.M 18 9,.M 19 10,.B 20 .add 18 19,.o 21 (.conv .u64 (.t 20)),.o 22 (.bin .shr (.t 21) (.c (.int .u64 1))),.o 23 (.conv .i64 (.t 22)),.M 11 23] (.r [.M 24 2,.M 25 0,.M 26 11,.X 27 2 25 26,.DT 28 27 2,.M 29 1,.o 30 (.callv (.t 24) [.t 28,.t 29]),.C 31 .lss 30 0] (.cond (.t 31) (.q [.M 32 11,.C 33 .add 32 1,.M 9 33]) (.q [.M 34 11,.M 10 34])))))
def f85r0:AC:= .v [.M 35 9,.M 36 9,.M 37 8,.B 38 .lss 36 37,.M 39 38,.g 40 (.m 2) 39 true,.g 41 (.m 0) 39 true,.g 42 (.m 9) 39 true,.g 43 (.idxa 2 (.t 41) (.t 42)) 39 true,.g 44 (.ld 43 2 true) 39 true,.g 45 (.m 1) 39 true,.g 46 (.callv (.t 40) [.t 44,.t 45]) 39 true,.g 47 (.bin .eql (.t 46) (.i 0)) 39 true,.P 48 39 47,.M 6 35,.M 7 48]
def f85C:AC:= .r [.I 6 0,.f 7 false] (.r [.M 12 0,.N 13 12,.M 8 13] (.r [.M 14 8,.I 9 0,.M 10 14] (.seq (.block 0 (.loop (f85l0))) (f85r0))))
def f85:Qg:=⟨3,49,[.tmp 6,.tmp 7],f85C,false⟩
def f86C:AC:= .r [.b 2 0,.o 4 (.alloc [.str [],.int .i64 0,.sl true 6 [],.int .i64 0,.sl true 2 [],.int .i64 0,.int .i64 0])] (.seq (.z [.F 5 2 2,.l 6 2 2 1,.c 7 51 [.t 6],.F 8 2 4,.l 9 2 4 1,.c 10 87 [.t 9],.M 11 1,.F 12 2 2,.n (.stfm 2 2 7),.F 13 2 4,.S 2 4 1 10,.F 14 2 6,.S 2 6 1 11]) (.v [.L 15 2 0 7,.S 4 0 7 15]))
def f86:Qg:=⟨2,16,[.cell 4 7 true],f86C,true⟩
def f89C:AC:= .r [.b 2 0,.b 3 1,.f 4 false] (.v [.L 5 2 0 4,.L 6 3 0 4,.c 7 90 [.t 5,.t 6],.C 8 .eql 7 0,.M 4 8])
def f89:Qg:=⟨2,9,[.tmp 4],f89C,false⟩
def f90l0:AC:= .seq (.r [.M 55 9,.F 56 2 3,.l 57 2 3 1,.N 58 57,.B 59 .lss 55 58] (.x 59 0)) (.seq (.block 1 (.seq (.z [.F 62 2 3,.l 63 2 3 1,.M 64 9,.X 65 4 63 64,.DT 66 65 4,.F 67 3 3,.l 68 3 3 1,.M 69 9,.X 70 4 68 69,.DT 71 70 4,.c 72 90 [.t 66,.t 71],.M 10 72]) (.r [.M 73 10,.C 74 .neq 73 0] (.i 74 (.v [.M 75 10,.M 4 75]))))) (.q [.M 60 9,.C 61 .add 60 1,.M 9 61]))
def f90r0:AC:= .v [.I 4 0]
def f90C:AC:= .r [.b 2 0,.b 3 1,.I 4 0] (.seq (.seq (.z [.L 11 2 0 4,.c 12 60 [.t 11],.L 13 3 0 4,.c 14 60 [.t 13],.c 15 91 [.t 12,.t 14],.M 5 15]) (.r [.M 16 5,.C 17 .neq 16 0] (.i 17 (.v [.M 18 5,.M 4 18])))) (.seq (.r [.F 19 2 0,.l 20 2 0 1,.F 21 3 0,.l 22 3 0 1,.c 23 91 [.t 20,.t 22],.M 6 23] (.r [.M 24 6,.C 25 .neq 24 0] (.i 25 (.v [.M 26 6,.M 4 26])))) (.seq (.r [.F 27 2 1,.l 28 2 1 1,.F 29 3 1,.l 30 3 1 1,.B 31 .lss 28 30] (.i 31 (.v [.I 4 (-1)]))) (.seq (.r [.F 32 2 1,.l 33 2 1 1,.F 34 3 1,.l 35 3 1 1,.B 36 .gtr 33 35] (.i 36 (.v [.I 4 1]))) (.seq (.r [.F 37 2 2,.l 38 2 2 1,.F 39 3 2,.l 40 3 2 1,.c 41 91 [.t 38,.t 40],.M 7 41] (.r [.M 42 7,.C 43 .neq 42 0] (.i 43 (.v [.M 44 7,.M 4 44])))) (.seq (.r [.F 45 2 3,.l 46 2 3 1,.N 47 46,.F 48 3 3,.l 49 3 3 1,.N 50 49,.c 51 91 [.t 47,.t 50],.M 8 51] (.r [.M 52 8,.C 53 .neq 52 0] (.i 53 (.v [.M 54 8,.M 4 54])))) (.seq (.r [.I 9 0] (.block 0 (.loop (f90l0)))) (f90r0))))))))
def f90:Qg:=⟨2,76,[.tmp 4],f90C,false⟩
@[simp] theorem f90B:f90.body=f90C∧f90.res=[.tmp 4]∧f90.keep=false:=⟨rfl,rfl,rfl⟩
def f91C:AC:= .r [.I 4 0] (.seq (.r [.M 5 0,.M 6 1,.B 7 .lss 5 6] (.i 7 (.v [.I 4 (-1)]))) (.seq (.r [.M 8 0,.M 9 1,.B 10 .gtr 8 9] (.i 10 (.v [.I 4 1]))) (.v [.I 4 0])))
def f91:Qg:=⟨2,11,[.tmp 4],f91C,false⟩
def f92C:AC:= .r [.b 2 0,.o 3 (.gbox (.t 1)),.o 4 (.alloc [.str [],.int .i64 0,.sl true 6 [],.int .i64 0,.sl true 2 [],.int .i64 0,.int .i64 0])] (.seq (.r [.L 6 2 0 7,.o 7 (.ldg 3 1 false),.c 8 26 [.t 6,.t 7],.C 9 .neq 8 0] (.i 9 (.v [.L 10 2 0 7,.S 4 0 7 10]))) (.r [.L 11 2 0 7,.o 12 (.ldg 3 1 false),.c 13 93 [.t 11,.t 12],.o 5 (.alloc [.str [],.int .i64 0,.sl true 6 [],.int .i64 0,.sl true 2 [],.int .i64 0,.int .i64 0]),.S 5 0 7 13] (.r [.F 14 5 2,.l 15 5 2 1,.o 16 (.mkfn 94 [.t 3]),.c 17 142 [.t 15,.t 16],.F 18 5 2,.n (.stfm 5 2 17)] (.r [.F 19 5 4,.l 20 5 4 1,.o 21 (.mkfn 96 [.t 3]),.c 22 144 [.t 20,.t 21],.F 23 5 4,.n (.stfm 5 4 22)] (.v [.L 24 5 0 7,.S 4 0 7 24])))))
def f92:Qg:=⟨2,25,[.cell 4 7 true],f92C,false⟩
def f93C:AC:= .r [.b 2 0,.o 4 (.alloc [.str [],.int .i64 0,.sl true 6 [],.int .i64 0,.sl true 2 [],.int .i64 0,.int .i64 0])] (.seq (.z [.F 5 2 2,.l 6 2 2 1,.c 7 66 [.t 6],.F 8 2 4,.l 9 2 4 1,.c 10 87 [.t 9],.M 11 1,.F 12 2 2,.S 2 2 1 7,.F 13 2 4,.S 2 4 1 10,.F 14 2 6,.S 2 6 1 11]) (.v [.L 15 2 0 7,.S 4 0 7 15]))
def f93:Qg:=⟨2,16,[.cell 4 7 true],f93C,true⟩
def f94C:AC:= .r [.b 2 0,.f 3 false] (.v [.F 4 2 1,.l 5 2 1 1,.C 6 .neq 5 0,.M 7 6,.g 8 (.fad 2 1) 7 true,.g 9 (.ldf 2 1 1 false) 7 true,.g 10 (.ldg 1 1 false) 7 true,.g 11 (.bin .lss (.t 9) (.t 10)) 7 true,.P 12 7 11,.M 3 12])
def f94:Qg:=⟨2,13,[.tmp 3],f94C,false⟩
def f96C:AC:= .r [.b 2 0,.f 3 false] (.v [.F 4 2 1,.l 5 2 1 1,.o 6 (.ldg 1 1 false),.B 7 .lss 5 6,.M 3 7])
def f96:Qg:=⟨2,8,[.tmp 3],f96C,false⟩
def f99l0:AC:= .r [.B 13 .lss 12 11] (.seq (.x 13 0) (.seq (.block 1 (.r [.X 14 6 10 12,.DT 15 14 6,.o 5 (.alloc [.int .i64 0,.int .i64 0,.int .i64 0,.str [],.int .i64 0,.sl true 4 []]),.S 5 0 6 15] (.q [.o 16 (.mvs 3),.F 17 5 2,.L 18 5 2 4,.o 19 (.mksl 4 [.t 18]),.A 20 56 4 16 19,.o 3 (.mvs 20)]))) (.q [.C 21 .add 12 1,.M 12 21])))
def f99r0:AC:= .v [.M 22 3,.o 2 (.mvs 22)]
def f99C:AC:= .r [.b 1 0,.Z 2 4] (.seq (.r [.L 6 1 0 7,.c 7 27 [.t 6],.C 8 .neq 7 0] (.i 8 (.v [.Z 2 4]))) (.r [.Z 3 4] (.seq (.r [.F 9 1 2,.l 10 1 2 1,.N 11 10,.I 12 0] (.block 0 (.loop (f99l0)))) (f99r0))))
def f99:Qg:=⟨1,23,[.tmp 2],f99C,false⟩
@[simp] theorem f99B:f99.body=f99C∧f99.res=[.tmp 2]∧f99.keep=false:=⟨rfl,rfl,rfl⟩
def f103C:AC:= .r [.o 4 (.alloc [.str [],.int .i64 0,.sl true 6 [],.int .i64 0,.sl true 2 [],.int .i64 0,.int .i64 0]),.I 5 0] (.seq (.r [.M 6 0,.c 7 104 [.t 6],.o 8 (.un .not (.t 7))] (.i 8 (.v [.o 9 (.mkst [.str [],.int .i64 0,.gs 0 0 0 0,.int .i64 0,.gs 0 0 0 0,.int .i64 0,.int .i64 0] []),.n (.stn 4 0 7 (.t 9) [.str [],.int .i64 0,.sl true 6 [],.int .i64 0,.sl true 2 [],.int .i64 0,.int .i64 0]),.I 5 2]))) (.seq (.r [.M 10 1,.C 11 .lss 10 1,.M 12 11,.g 13 (.m 1) 12 false,.g 14 (.bin .gtr (.t 13) (.i 1000)) 12 false,.Q 15 12 14] (.i 15 (.v [.o 16 (.mkst [.str [],.int .i64 0,.gs 0 0 0 0,.int .i64 0,.gs 0 0 0 0,.int .i64 0,.int .i64 0] []),.n (.stn 4 0 7 (.t 16) [.str [],.int .i64 0,.sl true 6 [],.int .i64 0,.sl true 2 [],.int .i64 0,.int .i64 0]),.I 5 7]))) (.v [.M 17 0,.M 18 1,.M 19 0,.c 20 105 [.t 19,.i 0],.o 21 (.mkst [.int .i64 0,.int .i64 0,.int .i64 0,.str [],.int .i64 0,.sl true 4 []] [(2,4,.t 20)]),.o 22 (.mksl 6 [.t 21]),.o 23 (.mkst [.str [],.int .i64 0,.sl true 6 [],.int .i64 0,.gs 0 0 0 0,.int .i64 0,.int .i64 0] [(0,1,.t 17),(5,1,.t 18),(2,1,.t 22)]),.n (.stn 4 0 7 (.t 23) [.str [],.int .i64 0,.sl true 6 [],.int .i64 0,.sl true 2 [],.int .i64 0,.int .i64 0]),.I 5 0])))
def f103:Qg:=⟨2,24,[.cell 4 7 true,.tmp 5],f103C,false⟩
def f104l0:AC:= .seq (.r [.M 4 3,.M 5 0,.o 6 (.lens (.t 5)),.B 7 .lss 4 6] (.x 7 0)) (.seq (.block 1 (.r [.M 10 0,.M 11 3,.o 12 (.idx (.t 10) (.t 11)),.o 13 (.bin .eql (.t 12) (.c (.int .u8 35))),.M 14 13,.g 15 (.m 0) 14 false,.g 16 (.m 3) 14 false,.g 17 (.idx (.t 15) (.t 16)) 14 false,.g 18 (.bin .eql (.t 17) (.c (.int .u8 95))) 14 false,.Q 19 14 18] (.i 19 (.v [.f 2 false])))) (.q [.M 8 3,.C 9 .add 8 1,.M 3 9]))
def f104r0:AC:= .v [.M 20 0,.c 21 57 [.t 20],.M 22 21,.g 23 (.m 0) 22 true,.g 24 (.lens (.t 23)) 22 true,.g 25 (.bin .leq (.t 24) (.i 10)) 22 true,.P 26 22 25,.M 27 26,.g 28 (.m 0) 27 true,.g 29 (.bin .neq (.t 28) (.c (.str [101]))) 27 true,.P 30 27 29,.M 2 30]
def f104C:AC:= .r [.f 2 false] (.seq (.r [.I 3 0] (.block 0 (.loop (f104l0)))) (f104r0))
def f104:Qg:=⟨1,31,[.tmp 2],f104C,false⟩
@[simp] theorem f104B:f104.body=f104C∧f104.res=[.tmp 2]∧f104.keep=false:=⟨rfl,rfl,rfl⟩
def f105C:AC:= .r [.T 4] (.v [.M 5 0,.o 6 (.bin .add (.t 5) (.c (.str [35]))),.M 7 1,.c 8 106 [.t 7],.B 9 .add 6 8,.c 10 107 [.t 9,.i 3],.S 4 0 4 10])
def f105:Qg:=⟨2,11,[.cell 4 4 true],f105C,false⟩
def f106C:AC:= .r [.o 2 (.mov (.c (.str [])))] (.seq (.r [.M 3 0,.C 4 .lss 3 10] (.i 4 (.v [.M 5 0,.M 6 0,.C 7 .add 6 1,.o 8 (.slcs (.c (.str [48,49,50,51,52,53,54,55,56,57])) (some (.t 5)) (some (.t 7))),.M 2 8]))) (.v [.M 9 0,.C 10 .quo 9 10,.c 11 106 [.t 10],.M 12 0,.C 13 .rem 12 10,.c 14 106 [.t 13],.B 15 .add 11 14,.M 2 15]))
def f106:Qg:=⟨1,16,[.tmp 2],f106C,false⟩
def f107C:AC:= .r [.T 4] (.v [.M 5 0,.M 6 1,.o 7 (.mkst zG [(0,1,.i 2),(1,1,.t 5),(2,1,.t 6)]),.n (.stn 4 0 4 (.t 7) zT)])
def f107:Qg:=⟨2,8,[.cell 4 4 true],f107C,false⟩
def f109l0:AC:= .seq (.r [.M 58 3,.F 59 1 4,.l 60 1 4 1,.N 61 60,.B 62 .lss 58 61] (.x 62 0)) (.seq (.block 1 (.r [.F 65 1 4,.l 66 1 4 1,.M 67 3,.X 68 2 66 67,.DT 69 68 2,.o 4 (.alloc [.int .i64 0,.int .i64 0]),.S 4 0 2 69] (.seq (.z [.F 70 4 0,.l 71 4 0 1,.C 72 .lss 71 0,.M 73 72,.g 74 (.fad 4 0) 73 false,.g 75 (.ldf 4 0 1 false) 73 false,.g 76 (.fad 1 3) 73 false,.g 77 (.ldf 1 3 1 false) 73 false,.g 78 (.bin .geq (.t 75) (.t 77)) 73 false,.Q 79 73 78,.M 80 79,.g 81 (.fad 4 1) 80 false,.g 82 (.ldf 4 1 1 false) 80 false,.g 83 (.bin .lss (.t 82) (.i 0)) 80 false,.Q 84 80 83,.M 85 84,.g 86 (.m 3) 85 false,.g 87 (.bin .gtr (.t 86) (.i 0)) 85 false,.g 88 (.m 87) 85 false,.g 89 (.fad 4 0) 88 true,.g 90 (.ldf 4 0 1 false) 88 true,.g 91 (.fad 1 4) 88 true,.g 92 (.ldf 1 4 1 false) 88 true,.g 93 (.m 3) 88 true,.g 94 (.bin .sub (.t 93) (.i 1)) 88 true,.g 95 (.idxa 2 (.t 92) (.t 94)) 88 true,.g 96 (.fadr 95 0) 88 true,.g 97 (.ld 96 1 false) 88 true,.g 98 (.bin .leq (.t 90) (.t 97)) 88 true,.g 99 (.pick (.t 88) (.t 98) (.c (.bool false))) 85 false,.Q 100 85 99]) (.i 100 (.v [.I 2 1]))))) (.q [.M 63 3,.C 64 .add 63 1,.M 3 64]))
def f109r0:AC:= .v [.I 2 0]
def f109C:AC:= .r [.b 1 0,.I 2 0] (.seq (.r [.F 5 1 0,.l 6 1 0 1,.c 7 104 [.t 6],.o 8 (.un .not (.t 7)),.M 9 8,.g 10 (.fad 1 5) 9 false,.g 11 (.ldf 1 5 1 false) 9 false,.g 12 (.bin .lss (.t 11) (.i 1)) 9 false,.Q 13 9 12,.M 14 13,.g 15 (.fad 1 5) 14 false,.g 16 (.ldf 1 5 1 false) 14 false,.g 17 (.bin .gtr (.t 16) (.i 1000)) 14 false,.Q 18 14 17,.M 19 18,.g 20 (.fad 1 1) 19 false,.g 21 (.ldf 1 1 1 false) 19 false,.g 22 (.bin .lss (.t 21) (.i 0)) 19 false,.Q 23 19 22,.M 24 23,.g 25 (.fad 1 1) 24 false,.g 26 (.ldf 1 1 1 false) 24 false,.g 27 (.bin .gtr (.t 26) (.i 10000)) 24 false,.Q 28 24 27,.M 29 28,.g 30 (.fad 1 3) 29 false,.g 31 (.ldf 1 3 1 false) 29 false,.g 32 (.bin .lss (.t 31) (.i 0)) 29 false,.Q 33 29 32,.M 34 33,.g 35 (.fad 1 3) 34 false,.g 36 (.ldf 1 3 1 false) 34 false,.g 37 (.bin .gtr (.t 36) (.i 10000)) 34 false,.Q 38 34 37,.M 39 38,.g 40 (.fad 1 6) 39 false,.g 41 (.ldf 1 6 1 false) 39 false,.g 42 (.bin .lss (.t 41) (.i 0)) 39 false,.Q 43 39 42,.M 44 43,.g 45 (.fad 1 6) 44 false,.g 46 (.ldf 1 6 1 false) 44 false,.g 47 (.bin .gtr (.t 46) (.i 100000)) 44 false,.Q 48 44 47,.M 49 48,.g 50 (.fad 1 4) 49 false,.g 51 (.ldf 1 4 1 false) 49 false,.g 52 (.lenl (.t 51)) 49 false,.g 53 (.bin .gtr (.t 52) (.i 200)) 49 false,.Q 54 49 53] (.i 54 (.v [.I 2 1]))) (.seq (.r [.L 55 1 0 7,.c 56 110 [.t 55],.o 57 (.un .not (.t 56))] (.i 57 (.v [.I 2 1]))) (.seq (.r [.I 3 0] (.block 0 (.loop (f109l0)))) (f109r0))))
def f109:Qg:=⟨1,101,[.tmp 2],f109C,false⟩
@[simp] theorem f109B:f109.body=f109C∧f109.res=[.tmp 2]∧f109.keep=false:=⟨rfl,rfl,rfl⟩
def f110l0:AC:= .seq (.r [.M 45 4,.M 46 3,.B 47 .lss 45 46] (.x 47 0)) (.seq (.block 1 (.r [.F 50 1 2,.l 51 1 2 1,.M 52 4,.X 53 6 51 52,.DT 54 53 6,.o 5 (.alloc [.int .i64 0,.int .i64 0,.int .i64 0,.str [],.int .i64 0,.sl true 4 []]),.S 5 0 6 54] (.seq (.seq (.z [.F 55 5 0,.l 56 5 0 1,.F 57 1 1,.l 58 1 1 1,.M 59 3,.B 60 .sub 58 59,.C 61 .add 60 1,.M 62 4,.B 63 .add 61 62,.B 64 .neq 56 63,.M 65 64,.g 66 (.fad 5 2) 65 false,.g 67 (.ldf 5 2 4 true) 65 false,.g 68 (.fad 1 0) 65 false,.g 69 (.ldf 1 0 1 false) 65 false,.g 70 (.fad 5 0) 65 false,.g 71 (.ldf 5 0 1 false) 65 false,.g 72 (.call 105 [.t 69,.t 71]) 65 false,.g 73 (.call 89 [.t 67,.t 72]) 65 false,.g 74 (.un .not (.t 73)) 65 false,.Q 75 65 74]) (.i 75 (.v [.f 2 false]))) (.seq (.z [.M 76 4,.M 77 3,.C 78 .sub 77 1,.B 79 .lss 76 78,.M 80 79,.g 81 (.fad 5 1) 80 true,.g 82 (.ldf 5 1 1 false) 80 true,.g 83 (.bin .lss (.t 82) (.i 1)) 80 true,.g 84 (.m 83) 80 true,.g 85 (.m 4) 84 false,.g 86 (.bin .gtr (.t 85) (.i 0)) 84 false,.g 87 (.m 86) 84 false,.g 88 (.fad 5 1) 87 true,.g 89 (.ldf 5 1 1 false) 87 true,.g 90 (.fad 1 2) 87 true,.g 91 (.ldf 1 2 1 false) 87 true,.g 92 (.m 4) 87 true,.g 93 (.bin .sub (.t 92) (.i 1)) 87 true,.g 94 (.idxa 6 (.t 91) (.t 93)) 87 true,.g 95 (.fadr 94 1) 87 true,.g 96 (.ld 95 1 false) 87 true,.g 97 (.bin .lss (.t 89) (.t 96)) 87 true,.g 98 (.pick (.t 87) (.t 97) (.c (.bool false))) 84 false,.g 99 (.pick (.t 84) (.c (.bool true)) (.t 98)) 80 true,.P 100 80 99]) (.i 100 (.v [.f 2 false])))))) (.q [.M 48 4,.C 49 .add 48 1,.M 4 49]))
def f110r0:AC:= .v [.f 2 true]
def f110C:AC:= .r [.b 1 0,.f 2 false] (.r [.F 6 1 2,.l 7 1 2 1,.N 8 7,.M 3 8] (.seq (.seq (.z [.M 9 3,.C 10 .lss 9 1,.M 11 10,.g 12 (.m 3) 11 false,.g 13 (.bin .gtr (.t 12) (.i 8)) 11 false,.Q 14 11 13,.M 15 14,.g 16 (.fad 1 2) 15 false,.g 17 (.ldf 1 2 1 false) 15 false,.g 18 (.m 3) 15 false,.g 19 (.bin .sub (.t 18) (.i 1)) 15 false,.g 20 (.idxa 6 (.t 17) (.t 19)) 15 false,.g 21 (.fadr 20 0) 15 false,.g 22 (.ld 21 1 false) 15 false,.g 23 (.fad 1 1) 15 false,.g 24 (.ldf 1 1 1 false) 15 false,.g 25 (.bin .neq (.t 22) (.t 24)) 15 false,.Q 26 15 25,.M 27 26,.g 28 (.fad 1 1) 27 false,.g 29 (.ldf 1 1 1 false) 27 false,.g 30 (.m 3) 27 false,.g 31 (.bin .sub (.t 29) (.t 30)) 27 false,.g 32 (.bin .add (.t 31) (.i 1)) 27 false,.g 33 (.bin .lss (.t 32) (.i 0)) 27 false,.Q 34 27 33,.M 35 34,.g 36 (.fad 1 2) 35 false,.g 37 (.ldf 1 2 1 false) 35 false,.g 38 (.m 3) 35 false,.g 39 (.bin .sub (.t 38) (.i 1)) 35 false,.g 40 (.idxa 6 (.t 37) (.t 39)) 35 false,.g 41 (.fadr 40 1) 35 false,.g 42 (.ld 41 1 false) 35 false,.g 43 (.bin .neq (.t 42) (.i 0)) 35 false,.Q 44 35 43]) (.i 44 (.v [.f 2 false]))) (.seq (.r [.I 4 0] (.block 0 (.loop (f110l0)))) (f110r0))))
def f110:Qg:=⟨1,101,[.tmp 2],f110C,false⟩
@[simp] theorem f110B:f110.body=f110C∧f110.res=[.tmp 2]∧f110.keep=false:=⟨rfl,rfl,rfl⟩
def f115C:AC:= .r [.b 3 0,.o 6 (.alloc [.str [],.int .i64 0,.sl true 6 [],.int .i64 0,.sl true 2 [],.int .i64 0,.int .i64 0]),.T 7,.T 8,.I 9 0] (.seq (.r [.L 13 3 0 7,.M 14 2,.c 15 116 [.t 13,.t 14],.M 10 15] (.r [.M 16 10,.C 17 .neq 16 0] (.i 17 (.v [.o 18 (.mkst [.str [],.int .i64 0,.gs 0 0 0 0,.int .i64 0,.gs 0 0 0 0,.int .i64 0,.int .i64 0] []),.o 19 (.mkst zG []),.o 20 (.mkst zG []),.M 21 10,.n (.stn 6 0 7 (.t 18) [.str [],.int .i64 0,.sl true 6 [],.int .i64 0,.sl true 2 [],.int .i64 0,.int .i64 0]),.n (.stn 7 0 4 (.t 19) zT),.n (.stn 8 0 4 (.t 20) zT),.M 9 21])))) (.seq (.r [.M 22 1,.c 23 57 [.t 22],.o 24 (.un .not (.t 23))] (.i 24 (.v [.o 25 (.mkst [.str [],.int .i64 0,.gs 0 0 0 0,.int .i64 0,.gs 0 0 0 0,.int .i64 0,.int .i64 0] []),.o 26 (.mkst zG []),.o 27 (.mkst zG []),.n (.stn 6 0 7 (.t 25) [.str [],.int .i64 0,.sl true 6 [],.int .i64 0,.sl true 2 [],.int .i64 0,.int .i64 0]),.n (.stn 7 0 4 (.t 26) zT),.n (.stn 8 0 4 (.t 27) zT),.I 9 2]))) (.seq (.r [.F 28 3 3,.l 29 3 3 1,.C 30 .eql 29 10000] (.i 30 (.v [.o 31 (.mkst [.str [],.int .i64 0,.gs 0 0 0 0,.int .i64 0,.gs 0 0 0 0,.int .i64 0,.int .i64 0] []),.o 32 (.mkst zG []),.o 33 (.mkst zG []),.n (.stn 6 0 7 (.t 31) [.str [],.int .i64 0,.sl true 6 [],.int .i64 0,.sl true 2 [],.int .i64 0,.int .i64 0]),.n (.stn 7 0 4 (.t 32) zT),.n (.stn 8 0 4 (.t 33) zT),.I 9 3]))) (.r [.F 34 3 0,.l 35 3 0 1,.F 36 3 3,.l 37 3 3 1,.c 38 117 [.t 35,.t 37],.T 11,.S 11 0 4 38] (.seq (.z [.M 39 1,.L 40 11 0 4,.F 41 3 3,.l 42 3 3 1,.M 43 2,.F 44 3 5,.l 45 3 5 1,.B 46 .add 43 45,.o 47 (.mkst [.str [],.int .i64 0,.str [],.int .i64 0,.sl true 4 [],.int .i64 0,.int .i64 0] [(0,1,.t 39),(1,4,.t 40),(5,1,.t 42),(6,1,.t 46)]),.F 48 3 2,.l 49 3 2 1,.F 50 3 2,.l 51 3 2 1,.N 52 51,.C 53 .sub 52 1,.X 54 6 49 53,.o 55 (.fadr 54 2),.DT 56 55 4,.c 57 118 [.t 47,.t 56],.T 12,.S 12 0 4 57]) (.r [.F 58 3 3,.l 59 3 3 1,.C 60 .add 59 1,.F 61 3 3,.S 3 3 1 60] (.r [.M 62 2,.F 63 3 6,.S 3 6 1 62] (.seq (.z [.L 64 3 0 7,.L 65 12 0 4,.L 66 11 0 4,.S 6 0 7 64,.S 7 0 4 65,.S 8 0 4 66,.I 9 0]) (.ret)))))))))
def f115:Qg:=⟨3,67,[.cell 6 7 true,.cell 7 4 true,.cell 8 4 true,.tmp 9],f115C,false⟩
@[simp] theorem f115B:f115.body=f115C∧f115.res=[.cell 6 7 true,.cell 7 4 true,.cell 8 4 true,.tmp 9]∧f115.keep=false:=⟨rfl,rfl,rfl⟩
def f116C:AC:= .r [.b 2 0,.I 4 0] (.seq (.r [.L 6 2 0 7,.c 7 109 [.t 6],.M 5 7] (.r [.M 8 5,.C 9 .neq 8 0] (.i 9 (.v [.M 10 5,.M 4 10])))) (.seq (.r [.M 11 1,.F 12 2 6,.l 13 2 6 1,.B 14 .lss 11 13,.M 15 14,.g 16 (.m 1) 15 false,.g 17 (.bin .gtr (.t 16) (.i 100000)) 15 false,.Q 18 15 17] (.i 18 (.v [.I 4 7]))) (.v [.I 4 0])))
def f116:Qg:=⟨2,19,[.tmp 4],f116C,false⟩
def f117C:AC:= .r [.T 4] (.v [.M 5 0,.o 6 (.bin .add (.t 5) (.c (.str [95]))),.M 7 1,.c 8 106 [.t 7],.B 9 .add 6 8,.c 10 107 [.t 9,.i 3],.S 4 0 4 10])
def f117:Qg:=⟨2,11,[.cell 4 4 true],f117C,false⟩
def f118C:AC:= .r [.b 2 0,.b 3 1,.T 4] (.seq (.z [.F 6 2 1,.L 7 2 1 4,.F 8 2 5,.l 9 2 5 1,.c 10 119 [.t 9],.F 11 2 6,.l 12 2 6 1,.c 13 119 [.t 12],.o 14 (.mksl 4 [.t 10,.t 13]),.c 15 120 [.c (.str [112,97,105,114]),.t 14],.o 16 (.mksl 4 [.t 7,.t 15]),.c 17 120 [.c (.str [112,97,105,114]),.t 16],.T 5,.S 5 0 4 17]) (.seq (.z [.F 18 2 0,.l 19 2 0 1,.c 20 107 [.t 19,.i 1],.L 21 5 0 4,.o 22 (.mksl 4 [.t 20,.t 21]),.c 23 120 [.c (.str [112,97,105,114]),.t 22],.L 24 3 0 4,.o 25 (.mksl 4 [.t 23,.t 24]),.c 26 120 [.c (.str [101,110,99]),.t 25],.S 4 0 4 26]) (.ret)))
def f118:Qg:=⟨2,27,[.cell 4 4 true],f118C,false⟩
@[simp] theorem f118B:f118.body=f118C∧f118.res=[.cell 4 4 true]∧f118.keep=false:=⟨rfl,rfl,rfl⟩
def f119C:AC:= .r [.T 2] (.v [.M 3 0,.c 4 106 [.t 3],.o 5 (.bin .add (.c (.str [110,35])) (.t 4)),.c 6 107 [.t 5,.i 4],.S 2 0 4 6])
def f119:Qg:=⟨1,7,[.cell 2 4 true],f119C,false⟩
def f120C:AC:= .r [.T 4] (.v [.M 5 0,.o 6 (.mksl 4 []),.M 7 1,.A 8 56 4 6 7,.o 9 (.mkst zT [(0,1,.i 3),(1,1,.t 5),(3,1,.t 8)]),.S 4 0 4 9])
def f120:Qg:=⟨2,10,[.cell 4 4 true],f120C,false⟩
def f121C:AC:= .r [.b 2 0,.o 4 (.alloc [.str [],.int .i64 0,.sl true 6 [],.int .i64 0,.sl true 2 [],.int .i64 0,.int .i64 0]),.I 5 0] (.seq (.r [.L 8 2 0 7,.M 9 1,.c 10 116 [.t 8,.t 9],.M 6 10] (.r [.M 11 6,.C 12 .neq 11 0] (.i 12 (.v [.o 13 (.mkst [.str [],.int .i64 0,.gs 0 0 0 0,.int .i64 0,.gs 0 0 0 0,.int .i64 0,.int .i64 0] []),.M 14 6,.n (.stn 4 0 7 (.t 13) [.str [],.int .i64 0,.sl true 6 [],.int .i64 0,.sl true 2 [],.int .i64 0,.int .i64 0]),.M 5 14])))) (.seq (.r [.F 15 2 2,.l 16 2 2 1,.N 17 16,.C 18 .eql 17 8,.M 19 18,.g 20 (.fad 2 1) 19 false,.g 21 (.ldf 2 1 1 false) 19 false,.g 22 (.bin .eql (.t 21) (.i 10000)) 19 false,.Q 23 19 22] (.i 23 (.v [.o 24 (.mkst [.str [],.int .i64 0,.gs 0 0 0 0,.int .i64 0,.gs 0 0 0 0,.int .i64 0,.int .i64 0] []),.n (.stn 4 0 7 (.t 24) [.str [],.int .i64 0,.sl true 6 [],.int .i64 0,.sl true 2 [],.int .i64 0,.int .i64 0]),.I 5 3]))) (.r [.o 25 (.mksl 6 []),.F 26 2 2,.l 27 2 2 1,.o 28 (.appg 72 6 (.t 25) (.t 27)),.M 7 28] (.r [.M 29 7,.M 30 7,.N 31 30,.C 32 .sub 31 1,.M 33 1,.F 34 2 5,.l 35 2 5 1,.B 36 .add 33 35,.X 37 6 29 32,.o 38 (.fadr 37 1),.n (.st 38 1 (.t 36))] (.r [.F 39 2 1,.l 40 2 1 1,.C 41 .add 40 1,.F 42 2 1,.S 2 1 1 41] (.seq (.z [.M 43 7,.F 44 2 1,.l 45 2 1 1,.F 46 2 0,.l 47 2 0 1,.F 48 2 1,.l 49 2 1 1,.c 50 105 [.t 47,.t 49],.o 51 (.mkst [.int .i64 0,.int .i64 0,.int .i64 0,.str [],.int .i64 0,.sl true 4 []] [(0,1,.t 45),(2,4,.t 50)]),.o 52 (.mksl 6 [.t 51]),.o 53 (.appz 72 6 43 (.t 52)),.F 54 2 2,.n (.stfm 2 2 53)]) (.r [.M 55 1,.F 56 2 6,.S 2 6 1 55] (.v [.L 57 2 0 7,.S 4 0 7 57,.I 5 0]))))))))
def f121:Qg:=⟨2,58,[.cell 4 7 true,.tmp 5],f121C,false⟩
@[simp] theorem f121B:f121.body=f121C∧f121.res=[.cell 4 7 true,.tmp 5]∧f121.keep=false:=⟨rfl,rfl,rfl⟩
def f122l0:AC:= .seq (.r [.M 14 6,.F 15 2 2,.l 16 2 2 1,.N 17 16,.B 18 .lss 14 17] (.x 18 0)) (.seq (.block 1 (.r [.F 21 2 2,.l 22 2 2 1,.M 23 6,.X 24 6 22 23,.o 25 (.fadr 24 1),.DF 26 25 1,.C 27 .eql 26 0,.M 28 27,.g 29 (.fad 2 2) 28 false,.g 30 (.ldf 2 2 1 false) 28 false,.g 31 (.m 6) 28 false,.g 32 (.idxa 6 (.t 30) (.t 31)) 28 false,.g 33 (.fadr 32 1) 28 false,.g 34 (.ld 33 1 false) 28 false,.g 35 (.m 1) 28 false,.g 36 (.bin .geq (.t 34) (.t 35)) 28 false,.Q 37 28 36] (.i 37 (.q [.o 38 (.mvs 5),.F 39 2 2,.l 40 2 2 1,.M 41 6,.X 42 6 40 41,.DT 43 42 6,.o 44 (.mksl 6 [.t 43]),.A 45 72 6 38 44,.o 5 (.mvs 45)])))) (.q [.M 19 6,.C 20 .add 19 1,.M 6 20]))
def f122l1:AC:= .seq (.r [.M 46 8,.F 47 2 4,.l 48 2 4 1,.N 49 48,.B 50 .lss 46 49] (.x 50 2)) (.seq (.block 3 (.r [.F 53 2 4,.l 54 2 4 1,.M 55 8,.X 56 2 54 55,.o 57 (.fadr 56 1),.DF 58 57 1,.M 59 1,.B 60 .geq 58 59] (.i 60 (.q [.o 61 (.mvs 7),.F 62 2 4,.l 63 2 4 1,.M 64 8,.X 65 2 63 64,.DT 66 65 2,.o 67 (.mksl 2 [.t 66]),.A 68 16 2 61 67,.o 7 (.mvs 68)])))) (.q [.M 51 8,.C 52 .add 51 1,.M 8 52]))
def f122r0:AC:= .r [.M 69 5,.M 70 7,.M 71 1,.F 72 2 2,.n (.stfm 2 2 69),.F 73 2 4,.n (.stfm 2 4 70),.F 74 2 6,.S 2 6 1 71] (.v [.L 75 2 0 7,.S 4 0 7 75])
def f122r1:AC:= .r [.Z 7 2] (.seq (.r [.I 8 0] (.block 2 (.loop (f122l1)))) (f122r0))
def f122C:AC:= .r [.b 2 0,.o 4 (.alloc [.str [],.int .i64 0,.sl true 6 [],.int .i64 0,.sl true 2 [],.int .i64 0,.int .i64 0])] (.seq (.r [.L 9 2 0 7,.M 10 1,.c 11 116 [.t 9,.t 10],.C 12 .neq 11 0] (.i 12 (.v [.L 13 2 0 7,.S 4 0 7 13]))) (.r [.Z 5 6] (.seq (.r [.I 6 0] (.block 0 (.loop (f122l0)))) (f122r1))))
def f122:Qg:=⟨2,76,[.cell 4 7 true],f122C,false⟩
@[simp] theorem f122B:f122.body=f122C∧f122.res=[.cell 4 7 true]∧f122.keep=false:=⟨rfl,rfl,rfl⟩
def f124l0:AC:= .seq (.r [.M 47 14,.F 48 3 4,.l 49 3 4 1,.N 50 49,.B 51 .lss 47 50] (.x 51 0)) (.seq (.block 1 (.seq (.seq (.z [.F 54 3 4,.l 55 3 4 1,.M 56 14,.X 57 2 55 56,.o 58 (.fadr 57 0),.DF 59 58 1,.F 60 10 5,.l 61 10 5 1,.B 62 .eql 59 61]) (.i 62 (.v [.o 63 (.mkst [.str [],.int .i64 0,.gs 0 0 0 0,.int .i64 0,.gs 0 0 0 0,.int .i64 0,.int .i64 0] []),.o 64 (.mkst zG []),.n (.stn 6 0 7 (.t 63) [.str [],.int .i64 0,.sl true 6 [],.int .i64 0,.sl true 2 [],.int .i64 0,.int .i64 0]),.n (.stn 7 0 4 (.t 64) zT),.I 8 21]))) (.seq (.seq (.z [.M 65 13,.o 66 (.un .not (.t 65)),.M 67 66,.g 68 (.fad 3 4) 67 true,.g 69 (.ldf 3 4 1 false) 67 true,.g 70 (.m 14) 67 true,.g 71 (.idxa 2 (.t 69) (.t 70)) 67 true,.g 72 (.fadr 71 0) 67 true,.g 73 (.ld 72 1 false) 67 true,.g 74 (.fad 10 5) 67 true,.g 75 (.ldf 10 5 1 false) 67 true,.g 76 (.bin .gtr (.t 73) (.t 75)) 67 true,.P 77 67 76]) (.i 77 (.r [.o 78 (.mvs 12),.F 79 10 5,.l 80 10 5 1,.F 81 10 6,.l 82 10 6 1,.o 83 (.mkst [.int .i64 0,.int .i64 0] [(0,1,.t 80),(1,1,.t 82)]),.o 84 (.mksl 2 [.t 83]),.A 85 16 2 78 84,.o 12 (.mvs 85)] (.q [.f 13 true])))) (.q [.o 86 (.mvs 12),.F 87 3 4,.l 88 3 4 1,.M 89 14,.X 90 2 88 89,.DT 91 90 2,.o 92 (.mksl 2 [.t 91]),.A 93 16 2 86 92,.o 12 (.mvs 93)])))) (.q [.M 52 14,.C 53 .add 52 1,.M 14 53]))
def f124r0:AC:= .seq (.r [.M 94 13,.o 95 (.un .not (.t 94))] (.i 95 (.q [.o 96 (.mvs 12),.F 97 10 5,.l 98 10 5 1,.F 99 10 6,.l 100 10 6 1,.o 101 (.mkst [.int .i64 0,.int .i64 0] [(0,1,.t 98),(1,1,.t 100)]),.o 102 (.mksl 2 [.t 101]),.A 103 16 2 96 102,.o 12 (.mvs 103)]))) (.seq (.r [.M 104 12,.N 105 104,.C 106 .gtr 105 200] (.i 106 (.v [.o 107 (.mkst [.str [],.int .i64 0,.gs 0 0 0 0,.int .i64 0,.gs 0 0 0 0,.int .i64 0,.int .i64 0] []),.o 108 (.mkst zG []),.n (.stn 6 0 7 (.t 107) [.str [],.int .i64 0,.sl true 6 [],.int .i64 0,.sl true 2 [],.int .i64 0,.int .i64 0]),.n (.stn 7 0 4 (.t 108) zT),.I 8 3]))) (.r [.M 109 12,.F 110 3 4,.n (.stfm 3 4 109)] (.r [.M 111 2,.F 112 3 6,.S 3 6 1 111] (.seq (.z [.L 113 3 0 7,.F 114 10 1,.L 115 10 1 4,.S 6 0 7 113,.S 7 0 4 115,.I 8 0]) (.ret)))))
def f124C:AC:= .r [.b 3 0,.b 4 1,.o 6 (.alloc [.str [],.int .i64 0,.sl true 6 [],.int .i64 0,.sl true 2 [],.int .i64 0,.int .i64 0]),.T 7,.I 8 0] (.seq (.r [.L 15 3 0 7,.M 16 2,.c 17 116 [.t 15,.t 16],.M 9 17] (.r [.M 18 9,.C 19 .neq 18 0] (.i 19 (.v [.o 20 (.mkst [.str [],.int .i64 0,.gs 0 0 0 0,.int .i64 0,.gs 0 0 0 0,.int .i64 0,.int .i64 0] []),.o 21 (.mkst zG []),.M 22 9,.n (.stn 6 0 7 (.t 20) [.str [],.int .i64 0,.sl true 6 [],.int .i64 0,.sl true 2 [],.int .i64 0,.int .i64 0]),.n (.stn 7 0 4 (.t 21) zT),.M 8 22])))) (.r [.L 24 3 0 7,.L 25 4 0 4,.c 26 125 [.t 24,.t 25],.M 23 26,.E 27 23 0,.E 28 23 1,.o 10 (.alloc [.str [],.int .i64 0,.str [],.int .i64 0,.sl true 4 [],.int .i64 0,.int .i64 0]),.S 10 0 7 27,.M 11 28] (.seq (.r [.M 29 11,.C 30 .neq 29 0] (.i 30 (.v [.o 31 (.mkst [.str [],.int .i64 0,.gs 0 0 0 0,.int .i64 0,.gs 0 0 0 0,.int .i64 0,.int .i64 0] []),.o 32 (.mkst zG []),.M 33 11,.n (.stn 6 0 7 (.t 31) [.str [],.int .i64 0,.sl true 6 [],.int .i64 0,.sl true 2 [],.int .i64 0,.int .i64 0]),.n (.stn 7 0 4 (.t 32) zT),.M 8 33]))) (.seq (.r [.F 34 10 5,.l 35 10 5 1,.F 36 3 3,.l 37 3 3 1,.B 38 .geq 35 37] (.i 38 (.v [.o 39 (.mkst [.str [],.int .i64 0,.gs 0 0 0 0,.int .i64 0,.gs 0 0 0 0,.int .i64 0,.int .i64 0] []),.o 40 (.mkst zG []),.n (.stn 6 0 7 (.t 39) [.str [],.int .i64 0,.sl true 6 [],.int .i64 0,.sl true 2 [],.int .i64 0,.int .i64 0]),.n (.stn 7 0 4 (.t 40) zT),.I 8 22]))) (.seq (.r [.M 41 2,.F 42 10 6,.l 43 10 6 1,.B 44 .gtr 41 43] (.i 44 (.v [.o 45 (.mkst [.str [],.int .i64 0,.gs 0 0 0 0,.int .i64 0,.gs 0 0 0 0,.int .i64 0,.int .i64 0] []),.o 46 (.mkst zG []),.n (.stn 6 0 7 (.t 45) [.str [],.int .i64 0,.sl true 6 [],.int .i64 0,.sl true 2 [],.int .i64 0,.int .i64 0]),.n (.stn 7 0 4 (.t 46) zT),.I 8 20]))) (.r [.Z 12 2] (.r [.f 13 false] (.seq (.r [.I 14 0] (.block 0 (.loop (f124l0)))) (f124r0)))))))))
def f124:Qg:=⟨3,116,[.cell 6 7 true,.cell 7 4 true,.tmp 8],f124C,false⟩
@[simp] theorem f124B:f124.body=f124C∧f124.res=[.cell 6 7 true,.cell 7 4 true,.tmp 8]∧f124.keep=false:=⟨rfl,rfl,rfl⟩
def f125C:AC:= .r [.b 2 0,.b 3 1,.o 4 (.alloc [.str [],.int .i64 0,.str [],.int .i64 0,.sl true 4 [],.int .i64 0,.int .i64 0]),.I 5 0] (.seq (.r [.L 8 2 0 7,.c 9 109 [.t 8],.M 6 9] (.r [.M 10 6,.C 11 .neq 10 0] (.i 11 (.v [.o 12 (.mkst [.str [],.int .i64 0,.str [],.int .i64 0,.gs 0 0 0 0,.int .i64 0,.int .i64 0] []),.M 13 6,.n (.stn 4 0 7 (.t 12) [.str [],.int .i64 0,.str [],.int .i64 0,.sl true 4 [],.int .i64 0,.int .i64 0]),.M 5 13])))) (.seq (.r [.L 14 3 0 4,.c 15 126 [.t 14],.C 16 .neq 15 0,.M 17 16,.g 18 (.ldf 3 0 4 true) 17 false,.g 19 (.call 132 [.t 18,.c (.str [101,110,99])]) 17 false,.g 20 (.un .not (.t 19)) 17 false,.Q 21 17 20] (.i 21 (.v [.o 22 (.mkst [.str [],.int .i64 0,.str [],.int .i64 0,.gs 0 0 0 0,.int .i64 0,.int .i64 0] []),.n (.stn 4 0 7 (.t 22) [.str [],.int .i64 0,.str [],.int .i64 0,.sl true 4 [],.int .i64 0,.int .i64 0]),.I 5 10]))) (.r [.F 23 3 3,.l 24 3 3 1,.o 25 (.idxa 4 (.t 24) (.i 0)),.DT 26 25 4,.c 27 133 [.t 26],.o 7 (.mvs 27)] (.seq (.r [.M 28 7,.N 29 28,.C 30 .neq 29 4,.M 31 30,.g 32 (.m 7) 31 false,.g 33 (.idxa 4 (.t 32) (.i 0)) 31 false,.g 34 (.fadr 33 0) 31 false,.g 35 (.ld 34 1 false) 31 false,.g 36 (.bin .neq (.t 35) (.i 2)) 31 false,.Q 37 31 36,.M 38 37,.g 39 (.m 7) 38 false,.g 40 (.idxa 4 (.t 39) (.i 0)) 38 false,.g 41 (.fadr 40 2) 38 false,.g 42 (.ld 41 1 false) 38 false,.g 43 (.bin .neq (.t 42) (.i 1)) 38 false,.Q 44 38 43,.M 45 44,.g 46 (.m 7) 45 false,.g 47 (.idxa 4 (.t 46) (.i 1)) 45 false,.g 48 (.fadr 47 0) 45 false,.g 49 (.ld 48 1 false) 45 false,.g 50 (.bin .neq (.t 49) (.i 2)) 45 false,.Q 51 45 50,.M 52 51,.g 53 (.m 7) 52 false,.g 54 (.idxa 4 (.t 53) (.i 1)) 52 false,.g 55 (.fadr 54 2) 52 false,.g 56 (.ld 55 1 false) 52 false,.g 57 (.bin .neq (.t 56) (.i 3)) 52 false,.Q 58 52 57,.M 59 58,.g 60 (.m 7) 59 false,.g 61 (.idxa 4 (.t 60) (.i 2)) 59 false,.g 62 (.ld 61 4 true) 59 false,.g 63 (.call 134 [.t 62]) 59 false,.g 64 (.bin .lss (.t 63) (.i 0)) 59 false,.Q 65 59 64,.M 66 65,.g 67 (.m 7) 66 false,.g 68 (.idxa 4 (.t 67) (.i 3)) 66 false,.g 69 (.ld 68 4 true) 66 false,.g 70 (.call 134 [.t 69]) 66 false,.g 71 (.bin .lss (.t 70) (.i 0)) 66 false,.Q 72 66 71] (.i 72 (.v [.o 73 (.mkst [.str [],.int .i64 0,.str [],.int .i64 0,.gs 0 0 0 0,.int .i64 0,.int .i64 0] []),.n (.stn 4 0 7 (.t 73) [.str [],.int .i64 0,.str [],.int .i64 0,.sl true 4 [],.int .i64 0,.int .i64 0]),.I 5 10]))) (.seq (.seq (.z [.L 74 2 0 7,.F 75 3 3,.l 76 3 3 1,.o 77 (.idxa 4 (.t 76) (.i 1)),.DT 78 77 4,.c 79 135 [.t 74,.t 78],.o 80 (.un .not (.t 79))]) (.i 80 (.v [.o 81 (.mkst [.str [],.int .i64 0,.str [],.int .i64 0,.gs 0 0 0 0,.int .i64 0,.int .i64 0] []),.n (.stn 4 0 7 (.t 81) [.str [],.int .i64 0,.str [],.int .i64 0,.sl true 4 [],.int .i64 0,.int .i64 0]),.I 5 4]))) (.seq (.z [.M 82 7,.o 83 (.idxa 4 (.t 82) (.i 0)),.o 84 (.fadr 83 1),.DF 85 84 1,.M 86 7,.o 87 (.idxa 4 (.t 86) (.i 1)),.DT 88 87 4,.M 89 7,.o 90 (.idxa 4 (.t 89) (.i 2)),.DT 91 90 4,.c 92 134 [.t 91],.M 93 7,.o 94 (.idxa 4 (.t 93) (.i 3)),.DT 95 94 4,.c 96 134 [.t 95],.o 97 (.mkst [.str [],.int .i64 0,.str [],.int .i64 0,.sl true 4 [],.int .i64 0,.int .i64 0] [(0,1,.t 85),(1,4,.t 88),(5,1,.t 92),(6,1,.t 96)]),.S 4 0 7 97,.I 5 0]) (.ret)))))))
def f125:Qg:=⟨2,98,[.cell 4 7 true,.tmp 5],f125C,false⟩
@[simp] theorem f125B:f125.body=f125C∧f125.res=[.cell 4 7 true,.tmp 5]∧f125.keep=false:=⟨rfl,rfl,rfl⟩
def f126C:AC:= .r [.b 1 0,.I 2 0] (.seq (.r [.L 4 1 0 4,.c 5 54 [.t 4],.M 3 5] (.r [.M 6 3,.C 7 .neq 6 0] (.i 7 (.v [.M 8 3,.M 2 8])))) (.v [.L 9 1 0 4,.c 10 127 [.t 9],.M 2 10]))
def f126:Qg:=⟨1,11,[.tmp 2],f126C,false⟩
@[simp] theorem f126B:f126.body=f126C∧f126.res=[.tmp 2]∧f126.keep=false:=⟨rfl,rfl,rfl⟩
def f127l0:AC:= .seq (.r [.M 24 4,.F 25 1 3,.l 26 1 3 1,.N 27 26,.B 28 .lss 24 27] (.x 28 0)) (.seq (.block 1 (.r [.F 31 1 3,.l 32 1 3 1,.M 33 4,.X 34 4 32 33,.DT 35 34 4,.c 36 127 [.t 35],.M 5 36] (.r [.M 37 5,.C 38 .neq 37 0] (.i 38 (.v [.M 39 5,.M 2 39]))))) (.q [.M 29 4,.C 30 .add 29 1,.M 4 30]))
def f127r0:AC:= .v [.I 2 0]
def f127C:AC:= .r [.b 1 0,.I 2 0] (.seq (.r [.F 6 1 0,.l 7 1 0 1,.C 8 .neq 7 3] (.i 8 (.v [.I 2 0]))) (.r [.F 9 1 1,.l 10 1 1 1,.c 11 128 [.t 10],.M 3 11] (.seq (.r [.M 12 3,.C 13 .eql 12 0] (.i 13 (.v [.I 2 10]))) (.seq (.r [.L 14 1 0 4,.c 15 130 [.t 14],.o 16 (.un .not (.t 15))] (.i 16 (.v [.I 2 6]))) (.seq (.r [.M 17 3,.C 18 .eql 17 2,.M 19 18,.g 20 (.ldf 1 0 4 true) 19 true,.g 21 (.call 131 [.t 20]) 19 true,.g 22 (.un .not (.t 21)) 19 true,.P 23 19 22] (.i 23 (.v [.I 2 10]))) (.seq (.r [.I 4 0] (.block 0 (.loop (f127l0)))) (f127r0)))))))
def f127:Qg:=⟨1,40,[.tmp 2],f127C,false⟩
@[simp] theorem f127B:f127.body=f127C∧f127.res=[.tmp 2]∧f127.keep=false:=⟨rfl,rfl,rfl⟩
def f128l0:AC:= .seq (.r [.M 6 4,.M 7 3,.N 8 7,.B 9 .lss 6 8] (.x 9 0)) (.seq (.block 1 (.r [.M 12 3,.M 13 4,.X 14 4 12 13,.o 15 (.fadr 14 0),.DF 16 15 1,.M 17 0,.B 18 .eql 16 17] (.i 18 (.v [.M 19 3,.M 20 4,.X 21 4 19 20,.o 22 (.fadr 21 3),.DF 23 22 1,.M 2 23])))) (.q [.M 10 4,.C 11 .add 10 1,.M 4 11]))
def f128r0:AC:= .v [.I 2 0]
def f128C:AC:= .r [.I 2 0] (.r [.c 5 129 [],.o 3 (.mvs 5)] (.seq (.r [.I 4 0] (.block 0 (.loop (f128l0)))) (f128r0)))
def f128:Qg:=⟨1,24,[.tmp 2],f128C,false⟩
@[simp] theorem f128B:f128.body=f128C∧f128.res=[.tmp 2]∧f128.keep=false:=⟨rfl,rfl,rfl⟩
def f129C:AC:= .r [.Z 0 4] (.v [.o 1 (.mkst [.str [],.int .i64 0,.int .i64 0,.int .i64 0] [(0,1,.c (.str [112,97,105,114])),(1,1,.i 2),(2,1,.i 2),(3,1,.i 1)]),.o 2 (.mkst [.str [],.int .i64 0,.int .i64 0,.int .i64 0] [(0,1,.c (.str [101,110,99])),(1,1,.i 2),(2,1,.i 2),(3,1,.i 1)]),.o 3 (.mkst [.str [],.int .i64 0,.int .i64 0,.int .i64 0] [(0,1,.c (.str [97,101,110,99])),(1,1,.i 2),(2,1,.i 2),(3,1,.i 1)]),.o 4 (.mkst [.str [],.int .i64 0,.int .i64 0,.int .i64 0] [(0,1,.c (.str [112,107])),(1,1,.i 1),(2,1,.i 1),(3,1,.i 1)]),.o 5 (.mkst [.str [],.int .i64 0,.int .i64 0,.int .i64 0] [(0,1,.c (.str [115,105,103,110])),(1,1,.i 2),(2,1,.i 2),(3,1,.i 1)]),.o 6 (.mkst [.str [],.int .i64 0,.int .i64 0,.int .i64 0] [(0,1,.c (.str [104,97,115,104])),(1,1,.i 1),(2,1,.i 1),(3,1,.i 1)]),.o 7 (.mkst [.str [],.int .i64 0,.int .i64 0,.int .i64 0] [(0,1,.c (.str [120,111,114])),(1,1,.i 2),(2,1,.i 8),(3,1,.i 1)]),.o 8 (.mkst [.str [],.int .i64 0,.int .i64 0,.int .i64 0] [(0,1,.c (.str [122,101,114,111])),(3,1,.i 1)]),.o 9 (.mkst [.str [],.int .i64 0,.int .i64 0,.int .i64 0] [(0,1,.c (.str [101,120,112])),(1,1,.i 2),(2,1,.i 2),(3,1,.i 1)]),.o 10 (.mkst [.str [],.int .i64 0,.int .i64 0,.int .i64 0] [(0,1,.c (.str [109,117,108])),(1,1,.i 2),(2,1,.i 8),(3,1,.i 1)]),.o 11 (.mkst [.str [],.int .i64 0,.int .i64 0,.int .i64 0] [(0,1,.c (.str [105,110,118])),(1,1,.i 1),(2,1,.i 1),(3,1,.i 1)]),.o 12 (.mkst [.str [],.int .i64 0,.int .i64 0,.int .i64 0] [(0,1,.c (.str [111,110,101])),(3,1,.i 1)]),.o 13 (.mkst [.str [],.int .i64 0,.int .i64 0,.int .i64 0] [(0,1,.c (.str [115,107])),(1,1,.i 1),(2,1,.i 1),(3,1,.i 2)]),.o 14 (.mkst [.str [],.int .i64 0,.int .i64 0,.int .i64 0] [(0,1,.c (.str [115,104,107])),(1,1,.i 2),(2,1,.i 2),(3,1,.i 2)]),.o 15 (.mkst [.str [],.int .i64 0,.int .i64 0,.int .i64 0] [(0,1,.c (.str [110,101,119])),(1,1,.i 1),(2,1,.i 8),(3,1,.i 2)]),.o 16 (.mkst [.str [],.int .i64 0,.int .i64 0,.int .i64 0] [(0,1,.c (.str [102,115,116])),(1,1,.i 1),(2,1,.i 1),(3,1,.i 3)]),.o 17 (.mkst [.str [],.int .i64 0,.int .i64 0,.int .i64 0] [(0,1,.c (.str [115,110,100])),(1,1,.i 1),(2,1,.i 1),(3,1,.i 3)]),.o 18 (.mkst [.str [],.int .i64 0,.int .i64 0,.int .i64 0] [(0,1,.c (.str [100,101,99])),(1,1,.i 2),(2,1,.i 2),(3,1,.i 3)]),.o 19 (.mkst [.str [],.int .i64 0,.int .i64 0,.int .i64 0] [(0,1,.c (.str [97,100,101,99])),(1,1,.i 2),(2,1,.i 2),(3,1,.i 3)]),.o 20 (.mkst [.str [],.int .i64 0,.int .i64 0,.int .i64 0] [(0,1,.c (.str [111,112,101,110])),(1,1,.i 2),(2,1,.i 2),(3,1,.i 3)]),.o 21 (.mkst [.str [],.int .i64 0,.int .i64 0,.int .i64 0] [(0,1,.c (.str [114,101,97,100])),(1,1,.i 1),(2,1,.i 1),(3,1,.i 3)]),.o 22 (.mksl 4 [.t 1,.t 2,.t 3,.t 4,.t 5,.t 6,.t 7,.t 8,.t 9,.t 10,.t 11,.t 12,.t 13,.t 14,.t 15,.t 16,.t 17,.t 18,.t 19,.t 20,.t 21]),.o 0 (.mvs 22)])
def f129:Qg:=⟨0,23,[.tmp 0],f129C,false⟩
def f130l0:AC:= .seq (.r [.M 6 4,.M 7 3,.N 8 7,.B 9 .lss 6 8] (.x 9 0)) (.seq (.block 1 (.seq (.z [.M 12 3,.M 13 4,.X 14 4 12 13,.o 15 (.fadr 14 0),.DF 16 15 1,.F 17 1 1,.l 18 1 1 1,.B 19 .eql 16 18]) (.i 19 (.seq (.z [.F 20 1 3,.l 21 1 3 1,.N 22 21,.M 23 3,.M 24 4,.X 25 4 23 24,.o 26 (.fadr 25 1),.DF 27 26 1,.B 28 .geq 22 27,.M 29 28,.g 30 (.fad 1 3) 29 true,.g 31 (.ldf 1 3 1 false) 29 true,.g 32 (.lenl (.t 31)) 29 true,.g 33 (.m 3) 29 true,.g 34 (.m 4) 29 true,.g 35 (.idxa 4 (.t 33) (.t 34)) 29 true,.g 36 (.fadr 35 2) 29 true,.g 37 (.ld 36 1 false) 29 true,.g 38 (.bin .leq (.t 32) (.t 37)) 29 true,.P 39 29 38,.M 2 39]) (.ret))))) (.q [.M 10 4,.C 11 .add 10 1,.M 4 11]))
def f130r0:AC:= .v [.f 2 false]
def f130C:AC:= .r [.b 1 0,.f 2 false] (.r [.c 5 129 [],.o 3 (.mvs 5)] (.seq (.r [.I 4 0] (.block 0 (.loop (f130l0)))) (f130r0)))
def f130:Qg:=⟨1,40,[.tmp 2],f130C,false⟩
@[simp] theorem f130B:f130.body=f130C∧f130.res=[.tmp 2]∧f130.keep=false:=⟨rfl,rfl,rfl⟩
def f131l0:AC:= .seq (.r [.M 13 3,.F 14 1 3,.l 15 1 3 1,.N 16 15,.B 17 .lss 13 16] (.x 17 0)) (.seq (.block 1 (.r [.F 20 1 3,.l 21 1 3 1,.M 22 3,.X 23 4 21 22,.o 24 (.fadr 23 0),.DF 25 24 1,.C 26 .eql 25 3,.M 27 26,.g 28 (.fad 1 3) 27 false,.g 29 (.ldf 1 3 1 false) 27 false,.g 30 (.m 3) 27 false,.g 31 (.idxa 4 (.t 29) (.t 30)) 27 false,.g 32 (.fadr 31 2) 27 false,.g 33 (.ld 32 1 false) 27 false,.g 34 (.bin .neq (.t 33) (.i 1)) 27 false,.Q 35 27 34] (.i 35 (.v [.f 2 false])))) (.q [.M 18 3,.C 19 .add 18 1,.M 3 19]))
def f131r0:AC:= .v [.f 2 true]
def f131C:AC:= .r [.b 1 0,.f 2 false] (.seq (.r [.F 4 1 1,.l 5 1 1 1,.o 6 (.bin .eql (.t 5) (.c (.str [110,101,119])))] (.i 6 (.v [.F 7 1 3,.l 8 1 3 1,.o 9 (.idxa 4 (.t 8) (.i 0)),.o 10 (.fadr 9 0),.DF 11 10 1,.C 12 .eql 11 2,.M 2 12]))) (.seq (.r [.I 3 0] (.block 0 (.loop (f131l0)))) (f131r0)))
def f131:Qg:=⟨1,36,[.tmp 2],f131C,false⟩
@[simp] theorem f131B:f131.body=f131C∧f131.res=[.tmp 2]∧f131.keep=false:=⟨rfl,rfl,rfl⟩
def f132C:AC:= .r [.b 2 0,.f 4 false] (.v [.F 5 2 0,.l 6 2 0 1,.C 7 .eql 6 3,.M 8 7,.g 9 (.fad 2 1) 8 true,.g 10 (.ldf 2 1 1 false) 8 true,.g 11 (.m 1) 8 true,.g 12 (.bin .eql (.t 10) (.t 11)) 8 true,.P 13 8 12,.M 4 13])
def f132:Qg:=⟨2,14,[.tmp 4],f132C,false⟩
def f133C:AC:= .r [.b 1 0,.Z 2 4] (.seq (.r [.L 3 1 0 4,.c 4 132 [.t 3,.c (.str [112,97,105,114])],.o 5 (.un .not (.t 4)),.M 6 5,.g 7 (.fad 1 3) 6 false,.g 8 (.ldf 1 3 1 false) 6 false,.g 9 (.lenl (.t 8)) 6 false,.g 10 (.bin .neq (.t 9) (.i 2)) 6 false,.Q 11 6 10] (.i 11 (.v [.L 12 1 0 4,.o 13 (.mksl 4 [.t 12]),.o 2 (.mvs 13)]))) (.seq (.z [.F 14 1 3,.l 15 1 3 1,.o 16 (.idxa 4 (.t 15) (.i 0)),.DT 17 16 4,.o 18 (.mksl 4 [.t 17]),.F 19 1 3,.l 20 1 3 1,.o 21 (.idxa 4 (.t 20) (.i 1)),.DT 22 21 4,.c 23 133 [.t 22],.A 24 56 4 18 23,.o 2 (.mvs 24)]) (.ret)))
def f133:Qg:=⟨1,25,[.tmp 2],f133C,false⟩
@[simp] theorem f133B:f133.body=f133C∧f133.res=[.tmp 2]∧f133.keep=false:=⟨rfl,rfl,rfl⟩
def f134l0:AC:= .seq (.r [.M 26 4,.F 27 1 1,.l 28 1 1 1,.o 29 (.lens (.t 28)),.B 30 .lss 26 29] (.x 30 0)) (.seq (.block 1 (.r [.F 33 1 1,.l 34 1 1 1,.M 35 4,.o 36 (.idx (.t 34) (.t 35)),.M 5 36] (.seq (.r [.M 37 5,.o 38 (.bin .lss (.t 37) (.c (.int .u8 48))),.M 39 38,.g 40 (.m 5) 39 false,.g 41 (.bin .gtr (.t 40) (.c (.int .u8 57))) 39 false,.Q 42 39 41] (.i 42 (.v [.I 2 (-1)]))) (.r [.M 43 3,.o 44 (.bin .mul (.i 10) (.t 43)),.M 45 5,.o 46 (.bin .sub (.t 45) (.c (.int .u8 48))),.o 47 (.conv .i64 (.t 46)),.B 48 .add 44 47,.M 3 48] (.r [.M 49 3,.C 50 .gtr 49 1000000] (.i 50 (.v [.I 2 (-1)]))))))) (.q [.M 31 4,.C 32 .add 31 1,.M 4 32]))
def f134r0:AC:= .seq (.seq (.z [.M 51 3,.c 52 106 [.t 51],.F 53 1 1,.l 54 1 1 1,.o 55 (.slcs (.t 54) (some (.i 2)) none),.B 56 .neq 52 55]) (.i 56 (.v [.I 2 (-1)]))) (.v [.M 57 3,.M 2 57])
def f134C:AC:= .r [.b 1 0,.I 2 0] (.seq (.r [.F 6 1 0,.l 7 1 0 1,.C 8 .neq 7 2,.M 9 8,.g 10 (.fad 1 2) 9 false,.g 11 (.ldf 1 2 1 false) 9 false,.g 12 (.bin .neq (.t 11) (.i 4)) 9 false,.Q 13 9 12,.M 14 13,.g 15 (.fad 1 1) 14 false,.g 16 (.ldf 1 1 1 false) 14 false,.g 17 (.lens (.t 16)) 14 false,.g 18 (.bin .lss (.t 17) (.i 3)) 14 false,.Q 19 14 18,.M 20 19,.g 21 (.fad 1 1) 20 false,.g 22 (.ldf 1 1 1 false) 20 false,.g 23 (.slcs (.t 22) none (some (.i 2))) 20 false,.g 24 (.bin .neq (.t 23) (.c (.str [110,35]))) 20 false,.Q 25 20 24] (.i 25 (.v [.I 2 (-1)]))) (.r [.I 3 0] (.seq (.r [.I 4 2] (.block 0 (.loop (f134l0)))) (f134r0))))
def f134:Qg:=⟨1,58,[.tmp 2],f134C,false⟩
@[simp] theorem f134B:f134.body=f134C∧f134.res=[.tmp 2]∧f134.keep=false:=⟨rfl,rfl,rfl⟩
def f135l0:AC:= .seq (.r [.M 6 5,.F 7 2 2,.l 8 2 2 1,.N 9 8,.B 10 .lss 6 9] (.x 10 0)) (.seq (.block 1 (.seq (.z [.F 13 2 2,.l 14 2 2 1,.M 15 5,.X 16 6 14 15,.o 17 (.fadr 16 2),.DT 18 17 4,.L 19 3 0 4,.c 20 89 [.t 18,.t 19]]) (.i 20 (.v [.f 4 true])))) (.q [.M 11 5,.C 12 .add 11 1,.M 5 12]))
def f135r0:AC:= .v [.f 4 false]
def f135C:AC:= .r [.b 2 0,.b 3 1,.f 4 false] (.seq (.r [.I 5 0] (.block 0 (.loop (f135l0)))) (f135r0))
def f135:Qg:=⟨2,21,[.tmp 4],f135C,false⟩
@[simp] theorem f135B:f135.body=f135C∧f135.res=[.tmp 4]∧f135.keep=false:=⟨rfl,rfl,rfl⟩
def f137l0:AC:= .seq (.r [.M 19 8,.M 20 1,.N 21 20,.B 22 .lss 19 21] (.x 22 0)) (.seq (.block 1 (.z [.L 25 7 0 10,.M 26 1,.M 27 8,.X 28 3 26 27,.DT 29 28 3,.c 30 138 [.t 25,.t 29],.S 7 0 10 30])) (.q [.M 23 8,.C 24 .add 23 1,.M 8 24]))
def f137r0:AC:= .v [.L 31 7 0 10,.S 4 0 10 31]
def f137C:AC:= .r [.o 4 (.alloc [.str [],.int .i64 0,.sl true 6 [],.int .i64 0,.sl true 2 [],.int .i64 0,.int .i64 0,.int .i64 0,.sl true 4 [],.sl true 4 []])] (.r [.M 10 0,.o 11 (.bin .rem (.t 10) (.c (.int .u8 16))),.o 12 (.conv .i64 (.t 11)),.o 13 (.bin .add (.i 1) (.t 12)),.c 14 103 [.c (.str [115,114,118]),.t 13],.M 9 14,.E 15 9 0,.E 16 9 1,.o 5 (.alloc [.str [],.int .i64 0,.sl true 6 [],.int .i64 0,.sl true 2 [],.int .i64 0,.int .i64 0]),.S 5 0 7 15,.M 6 16] (.r [.L 17 5 0 7,.o 18 (.mkst [.str [],.int .i64 0,.sl true 6 [],.int .i64 0,.sl true 2 [],.int .i64 0,.int .i64 0,.int .i64 0,.gs 0 0 0 0,.gs 0 0 0 0] [(0,7,.t 17)]),.o 7 (.alloc [.str [],.int .i64 0,.sl true 6 [],.int .i64 0,.sl true 2 [],.int .i64 0,.int .i64 0,.int .i64 0,.sl true 4 [],.sl true 4 []]),.n (.stn 7 0 10 (.t 18) [.str [],.int .i64 0,.sl true 6 [],.int .i64 0,.sl true 2 [],.int .i64 0,.int .i64 0,.int .i64 0,.sl true 4 [],.sl true 4 []])] (.seq (.r [.I 8 0] (.block 0 (.loop (f137l0)))) (f137r0))))
def f137:Qg:=⟨2,32,[.cell 4 10 true],f137C,false⟩
@[simp] theorem f137B:f137.body=f137C∧f137.res=[.cell 4 10 true]∧f137.keep=false:=⟨rfl,rfl,rfl⟩
def f138C:AC:= .r [.b 2 0,.b 3 1,.o 4 (.alloc [.str [],.int .i64 0,.sl true 6 [],.int .i64 0,.sl true 2 [],.int .i64 0,.int .i64 0,.int .i64 0,.sl true 4 [],.sl true 4 []])] (.r [.F 15 2 7,.l 16 2 7 1,.F 17 3 2,.l 18 3 2 1,.o 19 (.bin .rem (.t 18) (.c (.int .u8 8))),.o 20 (.conv .i64 (.t 19)),.B 21 .add 16 20,.M 5 21] (.r [.M 22 5,.F 23 2 7,.S 2 7 1 22] (.seq (.r [.F 24 3 0,.l 25 3 0 1,.o 26 (.bin .rem (.t 25) (.c (.int .u8 4)))] (.block 0 (.r [.o 33 (.bin .eql (.t 26) (.c (.int .u8 0))),.M 32 33] (.cond (.t 32) (.seq (.z [.F 35 2 0,.L 36 2 0 7,.F 37 3 1,.l 38 3 1 1,.o 39 (.bin .rem (.t 38) (.c (.int .u8 3))),.F 40 3 1,.l 41 3 1 1,.o 42 (.bin .rem (.t 41) (.c (.int .u8 3))),.o 43 (.bin .add (.t 42) (.c (.int .u8 1))),.o 44 (.slcs (.c (.str [97,98,99])) (some (.t 39)) (some (.t 43))),.M 45 5,.c 46 115 [.t 36,.t 44,.t 45],.M 34 46,.E 47 34 0,.E 48 34 1,.E 49 34 2,.E 50 34 3,.o 6 (.alloc [.str [],.int .i64 0,.sl true 6 [],.int .i64 0,.sl true 2 [],.int .i64 0,.int .i64 0]),.T 7,.T 8,.S 6 0 7 47,.S 7 0 4 48,.S 8 0 4 49,.M 9 50]) (.r [.M 51 9,.C 52 .eql 51 0] (.i 52 (.r [.L 53 6 0 7,.F 54 2 0,.S 2 0 7 53] (.seq (.z [.o 55 (.mksl 4 []),.F 56 2 8,.l 57 2 8 1,.A 58 56 4 55 57,.L 59 7 0 4,.o 60 (.mksl 4 [.t 59]),.A 61 56 4 58 60,.F 62 2 8,.n (.stfm 2 8 61)]) (.z [.o 63 (.mksl 4 []),.F 64 2 9,.l 65 2 9 1,.A 66 56 4 63 65,.L 67 8 0 4,.o 68 (.mksl 4 [.t 67]),.A 69 56 4 66 68,.F 70 2 9,.n (.stfm 2 9 69)])))))) (.r [.o 72 (.bin .eql (.t 26) (.c (.int .u8 1))),.M 71 72] (.cond (.t 71) (.r [.F 73 2 8,.l 74 2 8 1,.N 75 74,.C 76 .gtr 75 0] (.i 76 (.seq (.z [.F 78 2 0,.L 79 2 0 7,.F 80 2 8,.l 81 2 8 1,.F 82 3 1,.l 83 3 1 1,.o 84 (.conv .i64 (.t 83)),.F 85 2 8,.l 86 2 8 1,.N 87 86,.B 88 .rem 84 87,.X 89 4 81 88,.DT 90 89 4,.M 91 5,.c 92 124 [.t 79,.t 90,.t 91],.M 77 92,.E 93 77 0,.E 94 77 1,.E 95 77 2,.o 10 (.alloc [.str [],.int .i64 0,.sl true 6 [],.int .i64 0,.sl true 2 [],.int .i64 0,.int .i64 0]),.T 11,.S 10 0 7 93,.S 11 0 4 94,.M 12 95]) (.r [.M 96 12,.C 97 .eql 96 0] (.i 97 (.q [.L 98 10 0 7,.F 99 2 0,.S 2 0 7 98])))))) (.r [.o 101 (.bin .eql (.t 26) (.c (.int .u8 2))),.M 100 101] (.cond (.t 100) (.r [.F 103 2 0,.L 104 2 0 7,.M 105 5,.c 106 121 [.t 104,.t 105],.M 102 106,.E 107 102 0,.E 108 102 1,.o 13 (.alloc [.str [],.int .i64 0,.sl true 6 [],.int .i64 0,.sl true 2 [],.int .i64 0,.int .i64 0]),.S 13 0 7 107,.M 14 108] (.r [.M 109 14,.C 110 .eql 109 0] (.i 110 (.q [.L 111 13 0 7,.F 112 2 0,.S 2 0 7 111])))) (.q [.F 27 2 0,.L 28 2 0 7,.M 29 5,.c 30 122 [.t 28,.t 29],.F 31 2 0,.S 2 0 7 30]))))))))) (.v [.L 113 2 0 10,.S 4 0 10 113]))))
def f138:Qg:=⟨2,114,[.cell 4 10 true],f138C,false⟩
@[simp] theorem f138B:f138.body=f138C∧f138.res=[.cell 4 10 true]∧f138.keep=false:=⟨rfl,rfl,rfl⟩
def f142l0:AC:= .seq (.r [.M 16 6,.M 17 0,.N 18 17,.B 19 .lss 16 18] (.x 19 0)) (.seq (.block 1 (.r [.M 22 0,.M 23 6,.X 24 6 22 23,.o 25 (.ldg 24 6 true),.o 7 (.alloc [.int .i64 0,.int .i64 0,.int .i64 0,.str [],.int .i64 0,.sl true 4 []]),.S 7 0 6 25] (.r [.M 26 1,.L 27 7 0 6,.o 28 (.callv (.t 26) [.t 27]),.o 29 (.un .not (.t 28))] (.i 29 (.r [.M 30 0,.M 31 5,.L 32 7 0 6,.X 33 6 30 31,.n (.st 33 6 (.t 32))] (.q [.M 34 5,.C 35 .add 34 1,.M 5 35])))))) (.q [.M 20 6,.C 21 .add 20 1,.M 6 21]))
def f142r0:AC:= .r [.M 36 0,.M 37 5,.o 38 (.slcl 6 (.t 36) (some (.t 37)) none),.n (.clr 6 (.t 38))] (.v [.M 39 0,.M 40 5,.o 41 (.slcl 6 (.t 39) none (some (.t 40))),.o 4 (.frz 41 6)])
def f142C:AC:= .r [.Z 4 6] (.r [.M 8 0,.M 9 1,.c 10 143 [.t 8,.t 9],.M 5 10] (.seq (.r [.M 11 5,.C 12 .eql 11 (-1)] (.i 12 (.v [.M 13 0,.o 4 (.frz 13 6)]))) (.seq (.r [.M 14 5,.C 15 .add 14 1,.M 6 15] (.block 0 (.loop (f142l0)))) (f142r0))))
def f142:Qg:=⟨2,42,[.tmp 4],f142C,false⟩
def f143l0:AC:= .r [.B 9 .lss 8 7] (.seq (.x 9 0) (.seq (.block 1 (.r [.M 10 8,.M 5 10] (.r [.M 11 1,.M 12 0,.M 13 5,.X 14 6 12 13,.o 15 (.ldg 14 6 true),.o 16 (.callv (.t 11) [.t 15])] (.i 16 (.v [.M 17 5,.M 4 17]))))) (.q [.C 18 .add 8 1,.M 8 18])))
def f143r0:AC:= .v [.I 4 (-1)]
def f143C:AC:= .r [.I 4 0] (.seq (.r [.M 6 0,.N 7 6,.I 8 0] (.block 0 (.loop (f143l0)))) (f143r0))
def f143:Qg:=⟨2,19,[.tmp 4],f143C,false⟩
def f144l0:AC:= .seq (.r [.M 16 6,.M 17 0,.N 18 17,.B 19 .lss 16 18] (.x 19 0)) (.seq (.block 1 (.r [.M 22 0,.M 23 6,.X 24 2 22 23,.o 25 (.ldg 24 2 true),.o 7 (.alloc [.int .i64 0,.int .i64 0]),.S 7 0 2 25] (.r [.M 26 1,.L 27 7 0 2,.o 28 (.callv (.t 26) [.t 27]),.o 29 (.un .not (.t 28))] (.i 29 (.r [.M 30 0,.M 31 5,.L 32 7 0 2,.X 33 2 30 31,.n (.st 33 2 (.t 32))] (.q [.M 34 5,.C 35 .add 34 1,.M 5 35])))))) (.q [.M 20 6,.C 21 .add 20 1,.M 6 21]))
def f144r0:AC:= .r [.M 36 0,.M 37 5,.o 38 (.slcl 2 (.t 36) (some (.t 37)) none),.n (.clr 2 (.t 38))] (.v [.M 39 0,.M 40 5,.o 41 (.slcl 2 (.t 39) none (some (.t 40))),.o 4 (.frz 41 2)])
def f144C:AC:= .r [.Z 4 2] (.r [.M 8 0,.M 9 1,.c 10 145 [.t 8,.t 9],.M 5 10] (.seq (.r [.M 11 5,.C 12 .eql 11 (-1)] (.i 12 (.v [.M 13 0,.o 4 (.frz 13 2)]))) (.seq (.r [.M 14 5,.C 15 .add 14 1,.M 6 15] (.block 0 (.loop (f144l0)))) (f144r0))))
def f144:Qg:=⟨2,42,[.tmp 4],f144C,false⟩
def f145l0:AC:= .r [.B 9 .lss 8 7] (.seq (.x 9 0) (.seq (.block 1 (.r [.M 10 8,.M 5 10] (.r [.M 11 1,.M 12 0,.M 13 5,.X 14 2 12 13,.o 15 (.ldg 14 2 true),.o 16 (.callv (.t 11) [.t 15])] (.i 16 (.v [.M 17 5,.M 4 17]))))) (.q [.C 18 .add 8 1,.M 8 18])))
def f145r0:AC:= .v [.I 4 (-1)]
def f145C:AC:= .r [.I 4 0] (.seq (.r [.M 6 0,.N 7 6,.I 8 0] (.block 0 (.loop (f145l0)))) (f145r0))
def f145:Qg:=⟨2,19,[.tmp 4],f145C,false⟩
def f159C:AC:= .r [.b 1 0,.f 2 false] (.seq (.r [.F 5 1 0,.l 6 1 0 1,.C 7 .eql 6 3] (.i 7 (.v [.L 8 1 0 4,.o 9 (.mksl 1 [.c (.str [122,101,114,111]),.c (.str [111,110,101])]),.c 10 160 [.t 8,.t 9],.M 11 10,.g 12 (.fad 1 3) 11 true,.g 13 (.ldf 1 3 1 false) 11 true,.g 14 (.lenl (.t 13)) 11 true,.g 15 (.bin .eql (.t 14) (.i 0)) 11 true,.P 16 11 15,.M 2 16]))) (.seq (.r [.F 17 1 0,.l 18 1 0 1,.C 19 .neq 18 2] (.i 19 (.v [.f 2 false]))) (.r [.F 21 1 1,.l 22 1 1 1,.c 23 73 [.t 22,.c (.str [101,35])],.M 20 23,.E 24 20 0,.E 25 20 1,.M 3 24,.M 4 25] (.seq (.r [.F 26 1 2,.l 27 1 2 1] (.block 0 (.seq (.r [.C 29 .eql 27 1,.M 28 29] (.cond (.t 28) (.skip) (.q [.C 30 .eql 27 5,.M 28 30]))) (.cond (.t 28) (.v [.f 2 true]) (.r [.C 32 .eql 27 4,.M 31 32] (.cond (.t 31) (.v [.F 33 1 1,.l 34 1 1 1,.o 35 (.bin .eql (.t 34) (.c (.str [103]))),.M 36 35,.g 37 (.m 4) 36 false,.g 38 (.m 37) 36 false,.g 39 (.m 3) 38 true,.g 40 (.call 163 [.t 39]) 38 true,.g 41 (.pick (.t 38) (.t 40) (.c (.bool false))) 36 false,.Q 42 36 41,.M 2 42]) (.seq (.r [.C 44 .eql 27 0,.M 43 44] (.cond (.t 43) (.skip) (.r [.C 45 .eql 27 2,.M 43 45] (.cond (.t 43) (.skip) (.q [.C 46 .eql 27 3,.M 43 46]))))) (.i 43 (.v [.M 47 4,.M 48 47,.g 49 (.m 3) 48 true,.g 50 (.call 163 [.t 49]) 48 true,.P 51 48 50,.M 2 51]))))))))) (.v [.f 2 false])))))
def f159:Qg:=⟨1,52,[.tmp 2],f159C,false⟩
@[simp] theorem f159B:f159.body=f159C∧f159.res=[.tmp 2]∧f159.keep=false:=⟨rfl,rfl,rfl⟩
def f160C:AC:= .r [.b 2 0,.f 4 false] (.v [.F 5 2 0,.l 6 2 0 1,.C 7 .eql 6 3,.M 8 7,.g 9 (.m 1) 8 true,.g 10 (.fad 2 1) 8 true,.g 11 (.ldf 2 1 1 false) 8 true,.g 12 (.call 161 [.t 9,.t 11]) 8 true,.P 13 8 12,.M 4 13])
def f160:Qg:=⟨2,14,[.tmp 4],f160C,false⟩
@[simp] theorem f160B:f160.body=f160C∧f160.res=[.tmp 4]∧f160.keep=false:=⟨rfl,rfl,rfl⟩
def f161C:AC:= .r [.f 4 false] (.v [.M 5 0,.M 6 1,.c 7 162 [.t 5,.t 6],.C 8 .geq 7 0,.M 4 8])
def f161:Qg:=⟨2,9,[.tmp 4],f161C,false⟩
@[simp] theorem f161B:f161.body=f161C∧f161.res=[.tmp 4]∧f161.keep=false:=⟨rfl,rfl,rfl⟩
def f162l0:AC:= .r [.B 9 .lss 8 7] (.seq (.x 9 0) (.seq (.block 1 (.r [.M 10 8,.M 5 10] (.r [.M 11 1,.M 12 0,.M 13 5,.X 14 1 12 13,.DF 15 14 1,.B 16 .eql 11 15] (.i 16 (.v [.M 17 5,.M 4 17]))))) (.q [.C 18 .add 8 1,.M 8 18])))
def f162r0:AC:= .v [.I 4 (-1)]
def f162C:AC:= .r [.I 4 0] (.seq (.r [.M 6 0,.N 7 6,.I 8 0] (.block 0 (.loop (f162l0)))) (f162r0))
def f162:Qg:=⟨2,19,[.tmp 4],f162C,false⟩
@[simp] theorem f162B:f162.body=f162C∧f162.res=[.tmp 4]∧f162.keep=false:=⟨rfl,rfl,rfl⟩
def f163C:AC:= .r [.f 2 false] (.v [.M 3 0,.o 4 (.bin .neq (.t 3) (.c (.str []))),.M 5 4,.g 6 (.m 0) 5 true,.g 7 (.call 164 [.t 6,.c (.str [48,49,50,51,52,53,54,55,56,57])]) 5 true,.g 8 (.bin .eql (.t 7) (.c (.str []))) 5 true,.P 9 5 8,.M 2 9])
def f163:Qg:=⟨1,10,[.tmp 2],f163C,false⟩
@[simp] theorem f163B:f163.body=f163C∧f163.res=[.tmp 2]∧f163.keep=false:=⟨rfl,rfl,rfl⟩
def f165C:AC:= .r [.b 1 0,.Z 2 4] (.v [.L 3 1 0 4,.c 4 166 [.t 3,.i 1],.o 2 (.mvs 4)])
def f165:Qg:=⟨1,5,[.tmp 2],f165C,false⟩
def f166C:AC:= .r [.b 2 0,.o 3 (.gbox (.t 1)),.Z 4 4] (.r [.o 5 (.galloc [.gs 0 0 0 0])] (.r [.L 6 2 0 4,.o 7 (.mkfn 167 [.t 3,.t 5]),.c 8 168 [.t 6,.t 7]] (.v [.o 9 (.ldg 5 1 false),.c 10 169 [.t 9],.o 4 (.mvs 10)])))
def f166:Qg:=⟨2,11,[.tmp 4],f166C,false⟩
def f167C:AC:= .r [.b 3 0] (.r [.F 4 3 0,.l 5 3 0 1,.o 6 (.ldg 1 1 false),.B 7 .eql 5 6] (.i 7 (.z [.o 8 (.ldg 2 1 false),.L 9 3 0 4,.N 10 8,.o 11 (.mksl 4 [.c (.agg zT)]),.o 12 (.appM 56 4 (.t 8) (.t 11)),.X 13 4 12 10,.n (.stq 13 4 (.t 9) 2),.n (.st 2 1 (.t 12))])))
def f167:Qg:=⟨3,14,[],f167C,true⟩
def f168l0:AC:= .r [.B 13 .lss 12 11] (.seq (.x 13 0) (.seq (.block 1 (.r [.X 14 4 10 12,.DT 15 14 4,.T 5,.S 5 0 4 15] (.q [.L 16 5 0 4,.M 17 1,.c 18 168 [.t 16,.t 17]]))) (.q [.C 19 .add 12 1,.M 12 19])))
def f168C:AC:= .r [.b 2 0] (.r [.M 6 1,.L 7 2 0 4,.o 8 (.callv (.t 6) [.t 7])] (.r [.F 9 2 3,.l 10 2 3 1,.N 11 10,.I 12 0] (.block 0 (.loop (f168l0)))))
def f168:Qg:=⟨2,20,[],f168C,true⟩
@[simp] theorem f168B:f168.body=f168C∧f168.res=[]∧f168.keep=true:=⟨rfl,rfl,rfl⟩
def f169l0:AC:= .r [.B 11 .lss 10 9] (.seq (.x 11 0) (.seq (.block 1 (.r [.M 12 10,.M 3 12] (.q [.M 13 0,.M 14 3,.M 15 0,.M 16 3,.X 17 4 15 16,.o 18 (.ldg 17 4 true),.c 19 48 [.t 18],.X 20 4 13 14,.n (.st 20 4 (.t 19))]))) (.q [.C 21 .add 10 1,.M 10 21])))
def f169r0:AC:= .v [.M 22 0,.o 2 (.frz 22 4)]
def f169C:AC:= .r [.Z 2 4] (.r [.M 4 0,.c 5 170 [.t 4,.c (.fn 30 [])]] (.r [.M 6 0,.c 7 172 [.t 6,.c (.fn 171 [])],.M 0 7] (.seq (.r [.M 8 0,.N 9 8,.I 10 0] (.block 0 (.loop (f169l0)))) (f169r0))))
def f169:Qg:=⟨1,23,[.tmp 2],f169C,false⟩
@[simp] theorem f169B:f169.body=f169C∧f169.res=[.tmp 2]∧f169.keep=false:=⟨rfl,rfl,rfl⟩
def f171C:AC:= .r [.b 2 0,.b 3 1,.f 4 false] (.v [.L 5 2 0 4,.L 6 3 0 4,.c 7 30 [.t 5,.t 6],.C 8 .eql 7 0,.M 4 8])
def f171:Qg:=⟨2,9,[.tmp 4],f171C,false⟩
def f172l0:AC:= .seq (.r [.M 32 7,.M 33 6,.N 34 33,.B 35 .lss 32 34] (.x 35 2)) (.seq (.block 3 (.seq (.z [.M 38 1,.M 39 6,.M 40 7,.X 41 4 39 40,.o 42 (.ldg 41 4 true),.M 43 6,.M 44 7,.C 45 .sub 44 1,.X 46 4 43 45,.o 47 (.ldg 46 4 true),.o 48 (.callv (.t 38) [.t 42,.t 47]),.o 49 (.un .not (.t 48))]) (.i 49 (.r [.M 50 0,.M 51 5,.M 52 6,.M 53 7,.X 54 4 52 53,.o 55 (.ldg 54 4 true),.X 56 4 50 51,.n (.st 56 4 (.t 55))] (.q [.M 57 5,.C 58 .add 57 1,.M 5 58]))))) (.q [.M 36 7,.C 37 .add 36 1,.M 7 37]))
def f172r0:AC:= .r [.M 59 0,.M 60 5,.o 61 (.slcl 4 (.t 59) (some (.t 60)) none),.n (.clr 4 (.t 61))] (.v [.M 62 0,.M 63 5,.o 64 (.slcl 4 (.t 62) none (some (.t 63))),.M 4 64])
def f172r1:AC:= .q [.M 16 5,.C 17 .add 16 1,.M 5 17]
def f172l1:AC:= .seq (.r [.M 12 5,.M 13 0,.N 14 13,.B 15 .lss 12 14] (.x 15 0)) (.seq (.block 1 (.seq (.z [.M 18 1,.M 19 0,.M 20 5,.X 21 4 19 20,.o 22 (.ldg 21 4 true),.M 23 0,.M 24 5,.C 25 .sub 24 1,.X 26 4 23 25,.o 27 (.ldg 26 4 true),.o 28 (.callv (.t 18) [.t 22,.t 27])]) (.i 28 (.r [.M 29 0,.M 30 5,.o 31 (.slcl 4 (.t 29) (some (.t 30)) none),.M 6 31] (.seq (.r [.I 7 1] (.block 2 (.loop (f172l0)))) (f172r0)))))) (f172r1))
def f172r2:AC:= .v [.M 65 0,.M 4 65]
def f172C:AC:= .r [.Z 4 4] (.seq (.r [.M 8 0,.N 9 8,.C 10 .lss 9 2] (.i 10 (.v [.M 11 0,.M 4 11]))) (.seq (.r [.I 5 1] (.block 0 (.loop (f172l1)))) (f172r2)))
def f172:Qg:=⟨2,66,[.tmp 4],f172C,true⟩
@[simp] theorem f172B:f172.body=f172C∧f172.res=[.tmp 4]∧f172.keep=true:=⟨rfl,rfl,rfl⟩
def f173C:AC:= .r [.b 1 0,.f 2 false] (.r [.L 6 1 0 4,.c 7 174 [.t 6],.M 5 7,.E 8 5 0,.E 9 5 1,.T 3,.S 3 0 4 8,.M 4 9] (.v [.M 10 4,.C 11 .eql 10 0,.M 12 11,.g 13 (.ldf 3 0 4 true) 12 true,.g 14 (.ldf 1 0 4 true) 12 true,.g 15 (.call 177 [.t 13,.t 14]) 12 true,.P 16 12 15,.M 17 16,.g 18 (.ldf 1 0 4 true) 17 true,.g 19 (.call 207 [.t 18,.c (.fn 206 [])]) 17 true,.P 20 17 19,.M 2 20]))
def f173:Qg:=⟨1,21,[.tmp 2],f173C,false⟩
@[simp] theorem f173B:f173.body=f173C∧f173.res=[.tmp 2]∧f173.keep=false:=⟨rfl,rfl,rfl⟩
def f174C:AC:= .r [.b 1 0,.T 2,.I 3 0] (.seq (.r [.L 7 1 0 4,.c 8 41 [.t 7],.M 4 8] (.r [.M 9 4,.C 10 .neq 9 0] (.i 10 (.v [.o 11 (.mkst zG []),.M 12 4,.n (.stn 2 0 4 (.t 11) zT),.M 3 12])))) (.r [.L 14 1 0 4,.c 15 175 [.t 14],.M 13 15,.E 16 13 0,.E 17 13 1,.T 5,.S 5 0 4 16,.M 6 17] (.seq (.r [.M 18 6,.C 19 .eql 18 0] (.i 19 (.q [.L 20 5 0 4,.c 21 6 [.t 20],.M 6 21]))) (.seq (.r [.M 22 6,.C 23 .neq 22 0] (.i 23 (.v [.o 24 (.mkst zG []),.M 25 6,.n (.stn 2 0 4 (.t 24) zT),.M 3 25]))) (.v [.L 26 5 0 4,.S 2 0 4 26,.I 3 0])))))
def f174:Qg:=⟨1,27,[.cell 2 4 true,.tmp 3],f174C,false⟩
@[simp] theorem f174B:f174.body=f174C∧f174.res=[.cell 2 4 true,.tmp 3]∧f174.keep=false:=⟨rfl,rfl,rfl⟩
def f175l0:AC:= .r [.B 22 .lss 21 20] (.seq (.x 22 0) (.seq (.block 1 (.r [.X 23 4 19 21,.DT 24 23 4,.T 6,.S 6 0 4 24] (.r [.L 26 6 0 4,.c 27 175 [.t 26],.M 25 27,.E 28 25 0,.E 29 25 1,.T 7,.S 7 0 4 28,.M 8 29] (.seq (.r [.M 30 8,.C 31 .neq 30 0] (.i 31 (.v [.o 32 (.mkst zG []),.M 33 8,.n (.stn 2 0 4 (.t 32) zT),.M 3 33]))) (.q [.F 34 4 3,.o 35 (.ldfm 4 3),.L 36 7 0 4,.o 37 (.mksl 4 [.t 36]),.A 38 56 4 35 37,.F 39 4 3,.n (.stfm 4 3 38)]))))) (.q [.C 40 .add 21 1,.M 21 40])))
def f175r0:AC:= .seq (.r [.F 41 1 1,.l 42 1 1 1] (.block 2 (.seq (.r [.o 44 (.bin .eql (.t 42) (.c (.str [102,115,116]))),.M 43 44] (.cond (.t 43) (.skip) (.r [.o 45 (.bin .eql (.t 42) (.c (.str [115,110,100]))),.M 43 45] (.cond (.t 43) (.skip) (.r [.o 46 (.bin .eql (.t 42) (.c (.str [100,101,99]))),.M 43 46] (.cond (.t 43) (.skip) (.r [.o 47 (.bin .eql (.t 42) (.c (.str [97,100,101,99]))),.M 43 47] (.cond (.t 43) (.skip) (.r [.o 48 (.bin .eql (.t 42) (.c (.str [111,112,101,110]))),.M 43 48] (.cond (.t 43) (.skip) (.q [.o 49 (.bin .eql (.t 42) (.c (.str [114,101,97,100]))),.M 43 49]))))))))))) (.cond (.t 43) (.v [.L 50 4 0 4,.c 51 176 [.t 50],.S 2 0 4 51,.I 3 0]) (.r [.o 53 (.bin .eql (.t 42) (.c (.str [120,111,114]))),.M 52 53] (.cond (.t 52) (.v [.F 54 4 3,.l 55 4 3 1,.c 56 178 [.t 55],.E 57 56 0,.E 58 56 1,.S 2 0 4 57,.M 3 58]) (.seq (.r [.o 60 (.bin .eql (.t 42) (.c (.str [109,117,108]))),.M 59 60] (.cond (.t 59) (.skip) (.r [.o 61 (.bin .eql (.t 42) (.c (.str [105,110,118]))),.M 59 61] (.cond (.t 59) (.skip) (.q [.o 62 (.bin .eql (.t 42) (.c (.str [111,110,101]))),.M 59 62]))))) (.cond (.t 59) (.r [.L 64 4 0 4,.c 65 186 [.t 64],.M 63 65,.E 66 63 0,.E 67 63 1,.o 9 (.mvs 66),.M 10 67] (.seq (.r [.M 68 10,.C 69 .neq 68 0] (.i 69 (.v [.o 70 (.mkst zG []),.M 71 10,.n (.stn 2 0 4 (.t 70) zT),.M 3 71]))) (.v [.M 72 9,.c 73 196 [.t 72],.E 74 73 0,.E 75 73 1,.S 2 0 4 74,.M 3 75]))) (.r [.o 77 (.bin .eql (.t 42) (.c (.str [101,120,112]))),.M 76 77] (.i 76 (.seq (.z [.F 78 4 3,.l 79 4 3 1,.o 80 (.idxa 4 (.t 79) (.i 0)),.DT 81 80 4,.F 82 4 3,.l 83 4 3 1,.o 84 (.idxa 4 (.t 83) (.i 1)),.DT 85 84 4,.c 86 199 [.t 81,.t 85],.E 87 86 0,.E 88 86 1,.S 2 0 4 87,.M 3 88]) (.ret)))))))))))) (.v [.L 89 4 0 4,.S 2 0 4 89,.I 3 0])
def f175C:AC:= .r [.b 1 0,.T 2,.I 3 0] (.seq (.r [.F 11 1 0,.l 12 1 0 1,.C 13 .neq 12 3] (.i 13 (.v [.L 14 1 0 4,.S 2 0 4 14,.I 3 0]))) (.r [.F 15 1 1,.l 16 1 1 1,.o 17 (.mkst zG [(0,1,.i 3),(1,1,.t 16)]),.T 4,.n (.stn 4 0 4 (.t 17) zT)] (.seq (.r [.F 18 1 3,.l 19 1 3 1,.N 20 19,.I 21 0] (.block 0 (.loop (f175l0)))) (f175r0))))
def f175:Qg:=⟨1,90,[.cell 2 4 true,.tmp 3],f175C,false⟩
@[simp] theorem f175B:f175.body=f175C∧f175.res=[.cell 2 4 true,.tmp 3]∧f175.keep=false:=⟨rfl,rfl,rfl⟩
def f176C:AC:= .r [.b 1 0,.T 2] (.r [.F 7 1 3,.l 8 1 3 1,.o 9 (.idxa 4 (.t 8) (.i 0)),.DT 10 9 4,.T 3,.S 3 0 4 10] (.r [.T 4] (.seq (.r [.F 11 1 3,.l 12 1 3 1,.N 13 12,.C 14 .gtr 13 1] (.i 14 (.q [.F 15 1 3,.l 16 1 3 1,.o 17 (.idxa 4 (.t 16) (.i 1)),.DT 18 17 4,.S 4 0 4 18]))) (.r [.f 5 false] (.r [.I 6 0] (.seq (.r [.F 19 1 1,.l 20 1 1 1] (.block 0 (.r [.o 22 (.bin .eql (.t 20) (.c (.str [102,115,116]))),.M 21 22] (.cond (.t 21) (.q [.L 23 3 0 4,.c 24 71 [.t 23,.c (.str [112,97,105,114])],.M 5 24]) (.r [.o 26 (.bin .eql (.t 20) (.c (.str [115,110,100]))),.M 25 26] (.cond (.t 25) (.q [.L 27 3 0 4,.c 28 71 [.t 27,.c (.str [112,97,105,114])],.M 5 28,.I 6 1]) (.r [.o 30 (.bin .eql (.t 20) (.c (.str [100,101,99]))),.M 29 30] (.cond (.t 29) (.z [.L 31 3 0 4,.c 32 71 [.t 31,.c (.str [101,110,99])],.M 33 32,.g 34 (.fad 3 3) 33 true,.g 35 (.ldf 3 3 1 false) 33 true,.g 36 (.idxa 4 (.t 35) (.i 1)) 33 true,.g 37 (.ld 36 4 true) 33 true,.g 38 (.ldf 4 0 4 true) 33 true,.g 39 (.call 177 [.t 37,.t 38]) 33 true,.P 40 33 39,.M 5 40]) (.r [.o 42 (.bin .eql (.t 20) (.c (.str [97,100,101,99]))),.M 41 42] (.cond (.t 41) (.z [.L 43 3 0 4,.c 44 71 [.t 43,.c (.str [97,101,110,99])],.M 45 44,.g 46 (.fad 3 3) 45 true,.g 47 (.ldf 3 3 1 false) 45 true,.g 48 (.idxa 4 (.t 47) (.i 1)) 45 true,.g 49 (.ld 48 4 true) 45 true,.g 50 (.call 71 [.t 49,.c (.str [112,107])]) 45 true,.P 51 45 50,.M 52 51,.g 53 (.fad 3 3) 52 true,.g 54 (.ldf 3 3 1 false) 52 true,.g 55 (.idxa 4 (.t 54) (.i 1)) 52 true,.g 56 (.fadr 55 3) 52 true,.g 57 (.ld 56 1 false) 52 true,.g 58 (.idxa 4 (.t 57) (.i 0)) 52 true,.g 59 (.ld 58 4 true) 52 true,.g 60 (.ldf 4 0 4 true) 52 true,.g 61 (.call 177 [.t 59,.t 60]) 52 true,.P 62 52 61,.M 5 62]) (.r [.o 64 (.bin .eql (.t 20) (.c (.str [111,112,101,110]))),.M 63 64] (.cond (.t 63) (.z [.L 65 3 0 4,.c 66 71 [.t 65,.c (.str [115,105,103,110])],.M 67 66,.g 68 (.ldf 4 0 4 true) 67 true,.g 69 (.call 71 [.t 68,.c (.str [112,107])]) 67 true,.P 70 67 69,.M 71 70,.g 72 (.fad 3 3) 71 true,.g 73 (.ldf 3 3 1 false) 71 true,.g 74 (.idxa 4 (.t 73) (.i 1)) 71 true,.g 75 (.ld 74 4 true) 71 true,.g 76 (.fad 4 3) 71 true,.g 77 (.ldf 4 3 1 false) 71 true,.g 78 (.idxa 4 (.t 77) (.i 0)) 71 true,.g 79 (.ld 78 4 true) 71 true,.g 80 (.call 177 [.t 75,.t 79]) 71 true,.P 81 71 80,.M 5 81]) (.r [.o 83 (.bin .eql (.t 20) (.c (.str [114,101,97,100]))),.M 82 83] (.i 82 (.q [.L 84 3 0 4,.c 85 71 [.t 84,.c (.str [115,105,103,110])],.M 5 85]))))))))))))))) (.seq (.r [.M 86 5] (.i 86 (.v [.F 87 3 3,.l 88 3 3 1,.M 89 6,.X 90 4 88 89,.DT 91 90 4,.S 2 0 4 91]))) (.v [.L 92 1 0 4,.S 2 0 4 92]))))))))
def f176:Qg:=⟨1,93,[.cell 2 4 true],f176C,false⟩
@[simp] theorem f176B:f176.body=f176C∧f176.res=[.cell 2 4 true]∧f176.keep=false:=⟨rfl,rfl,rfl⟩
def f177C:AC:= .r [.b 2 0,.b 3 1,.f 4 false] (.v [.L 5 2 0 4,.L 6 3 0 4,.c 7 30 [.t 5,.t 6],.C 8 .eql 7 0,.M 4 8])
def f177:Qg:=⟨2,9,[.tmp 4],f177C,false⟩
@[simp] theorem f177B:f177.body=f177C∧f177.res=[.tmp 4]∧f177.keep=false:=⟨rfl,rfl,rfl⟩
def f178l0:AC:= .r [.B 18 .lss 17 16] (.seq (.x 18 0) (.seq (.block 1 (.r [.X 19 4 15 17,.DT 20 19 4,.T 7,.S 7 0 4 20] (.q [.M 21 5,.L 22 7 0 4,.c 23 182 [.t 22],.c 24 183 [.t 21,.t 23],.o 5 (.mvs 24)]))) (.q [.C 25 .add 17 1,.M 17 25])))
def f178r0:AC:= .r [.M 26 5,.c 27 184 [.t 26],.o 5 (.mvs 27)] (.r [.T 8] (.seq (.r [.M 28 5,.N 29 28] (.block 2 (.r [.C 33 .eql 29 0,.M 32 33] (.cond (.t 32) (.q [.o 34 (.mkst zG [(0,1,.i 3),(1,1,.c (.str [122,101,114,111]))]),.n (.stn 8 0 4 (.t 34) zT)]) (.r [.C 36 .eql 29 1,.M 35 36] (.cond (.t 35) (.q [.M 37 5,.o 38 (.idxa 4 (.t 37) (.i 0)),.DT 39 38 4,.S 8 0 4 39]) (.q [.M 30 5,.o 31 (.mkst zT [(0,1,.i 3),(1,1,.c (.str [120,111,114])),(3,1,.t 30)]),.S 8 0 4 31]))))))) (.seq (.r [.L 40 8 0 4,.c 41 6 [.t 40],.C 42 .neq 41 0] (.i 42 (.v [.o 43 (.mkst zG []),.n (.stn 2 0 4 (.t 43) zT),.I 3 3]))) (.v [.L 44 8 0 4,.S 2 0 4 44,.I 3 0]))))
def f178C:AC:= .r [.T 2,.I 3 0] (.seq (.r [.M 9 0,.c 10 179 [.t 9,.c (.sl true 4 [])],.M 4 10] (.r [.M 11 4,.C 12 .neq 11 0] (.i 12 (.v [.o 13 (.mkst zG []),.M 14 4,.n (.stn 2 0 4 (.t 13) zT),.M 3 14])))) (.r [.Z 5 4] (.seq (.r [.M 15 0,.N 16 15,.I 17 0] (.block 0 (.loop (f178l0)))) (f178r0))))
def f178:Qg:=⟨1,45,[.cell 2 4 true,.tmp 3],f178C,false⟩
@[simp] theorem f178B:f178.body=f178C∧f178.res=[.cell 2 4 true,.tmp 3]∧f178.keep=false:=⟨rfl,rfl,rfl⟩
def f179l0:AC:= .r [.B 17 .lss 16 15] (.seq (.x 17 0) (.seq (.block 1 (.r [.X 18 4 14 16,.DT 19 18 4,.T 6,.S 6 0 4 19] (.r [.L 20 6 0 4,.c 21 6 [.t 20],.M 7 21] (.r [.M 22 7,.C 23 .neq 22 0] (.i 23 (.v [.M 24 7,.M 4 24])))))) (.q [.C 25 .add 16 1,.M 16 25])))
def f179r0:AC:= .v [.I 4 0]
def f179C:AC:= .r [.I 4 0] (.seq (.r [.M 8 0,.N 9 8,.C 10 .gtr 9 200] (.i 10 (.v [.I 4 3]))) (.seq (.r [.M 11 0,.M 12 1,.o 13 (.mksl 1 [.t 11,.t 12]),.c 14 180 [.t 13],.N 15 14,.I 16 0] (.block 0 (.loop (f179l0)))) (f179r0)))
def f179:Qg:=⟨2,26,[.tmp 4],f179C,false⟩
@[simp] theorem f179B:f179.body=f179C∧f179.res=[.tmp 4]∧f179.keep=false:=⟨rfl,rfl,rfl⟩
def f180l0:AC:= .r [.B 12 .lss 11 10] (.seq (.x 12 0) (.seq (.block 1 (.r [.X 13 1 9 11,.DF 14 13 1,.o 5 (.mvs 14)] (.r [.M 15 3,.M 16 5,.N 17 16,.B 18 .add 15 17,.M 3 18] (.r [.M 19 3,.C 20 .lss 19 0] (.i 20 (.bad)))))) (.q [.C 22 .add 11 1,.M 11 22])))
def f180l1:AC:= .r [.B 28 .lss 27 26] (.seq (.x 28 2) (.seq (.block 3 (.r [.X 29 1 25 27,.DF 30 29 1,.o 8 (.mvs 30)] (.q [.o 31 (.mvs 6),.M 32 8,.A 33 56 4 31 32,.o 6 (.mvs 33)]))) (.q [.C 34 .add 27 1,.M 27 34])))
def f180r0:AC:= .v [.M 35 6,.o 2 (.mvs 35)]
def f180r1:AC:= .r [.M 23 3,.c 24 181 [.c (.gs 0 0 0 0),.t 23],.o 6 (.mvs 24)] (.seq (.r [.M 25 0,.N 26 25,.I 27 0] (.block 2 (.loop (f180l1)))) (f180r0))
def f180C:AC:= .r [.Z 2 4] (.r [.I 3 0] (.seq (.r [.M 9 0,.N 10 9,.I 11 0] (.block 0 (.loop (f180l0)))) (f180r1)))
def f180:Qg:=⟨1,36,[.tmp 2],f180C,false⟩
@[simp] theorem f180B:f180.body=f180C∧f180.res=[.tmp 2]∧f180.keep=false:=⟨rfl,rfl,rfl⟩
def f182l0:AC:= .r [.B 34 .lss 33 32] (.seq (.x 34 1) (.seq (.block 2 (.r [.X 35 4 31 33,.DT 36 35 4,.T 5,.S 5 0 4 36] (.q [.M 37 3,.L 38 5 0 4,.c 39 182 [.t 38],.c 40 183 [.t 37,.t 39],.o 3 (.mvs 40)]))) (.q [.C 41 .add 33 1,.M 33 41])))
def f182r0:AC:= .v [.M 42 3,.o 2 (.mvs 42)]
def f182r1:AC:= .v [.L 43 1 0 4,.o 44 (.mksl 4 [.t 43]),.o 2 (.mvs 44)]
def f182C:AC:= .r [.b 1 0,.Z 2 4] (.seq (.block 0 (.r [.F 7 1 0,.l 8 1 0 1,.C 9 .eql 8 3,.M 10 9,.g 11 (.fad 1 1) 10 true,.g 12 (.ldf 1 1 1 false) 10 true,.g 13 (.bin .eql (.t 12) (.c (.str [122,101,114,111]))) 10 true,.P 14 10 13,.M 15 14,.g 16 (.fad 1 3) 15 true,.g 17 (.ldf 1 3 1 false) 15 true,.g 18 (.lenl (.t 17)) 15 true,.g 19 (.bin .eql (.t 18) (.i 0)) 15 true,.P 20 15 19,.M 6 20] (.cond (.t 6) (.v [.Z 2 4]) (.r [.F 22 1 0,.l 23 1 0 1,.C 24 .eql 23 3,.M 25 24,.g 26 (.fad 1 1) 25 true,.g 27 (.ldf 1 1 1 false) 25 true,.g 28 (.bin .eql (.t 27) (.c (.str [120,111,114]))) 25 true,.P 29 25 28,.M 21 29] (.i 21 (.r [.Z 3 4] (.seq (.r [.F 30 1 3,.l 31 1 3 1,.N 32 31,.I 33 0] (.block 1 (.loop (f182l0)))) (f182r0)))))))) (f182r1))
def f182:Qg:=⟨1,45,[.tmp 2],f182C,false⟩
@[simp] theorem f182B:f182.body=f182C∧f182.res=[.tmp 2]∧f182.keep=false:=⟨rfl,rfl,rfl⟩
def f183l0:AC:= .seq (.r [.M 7 0,.N 8 7,.C 9 .gtr 8 0,.M 10 9,.g 11 (.m 1) 10 true,.g 12 (.lenl (.t 11)) 10 true,.g 13 (.bin .gtr (.t 12) (.i 0)) 10 true,.P 14 10 13] (.x 14 0)) (.block 1 (.seq (.z [.M 15 0,.o 16 (.idxa 4 (.t 15) (.i 0)),.DT 17 16 4,.M 18 1,.o 19 (.idxa 4 (.t 18) (.i 0)),.DT 20 19 4,.c 21 30 [.t 17,.t 20],.M 6 21]) (.block 2 (.r [.M 27 6,.C 28 .lss 27 0,.M 26 28] (.cond (.t 26) (.z [.o 29 (.mvs 5),.M 30 0,.o 31 (.idxa 4 (.t 30) (.i 0)),.DT 32 31 4,.o 33 (.mksl 4 [.t 32]),.A 34 56 4 29 33,.M 35 0,.o 36 (.slcl 4 (.t 35) (some (.i 1)) none),.o 5 (.mvs 34),.o 0 (.mvs 36)]) (.r [.M 38 6,.C 39 .gtr 38 0,.M 37 39] (.cond (.t 37) (.z [.o 40 (.mvs 5),.M 41 1,.o 42 (.idxa 4 (.t 41) (.i 0)),.DT 43 42 4,.o 44 (.mksl 4 [.t 43]),.A 45 56 4 40 44,.M 46 1,.o 47 (.slcl 4 (.t 46) (some (.i 1)) none),.o 5 (.mvs 45),.o 1 (.mvs 47)]) (.z [.M 22 0,.o 23 (.slcl 4 (.t 22) (some (.i 1)) none),.M 24 1,.o 25 (.slcl 4 (.t 24) (some (.i 1)) none),.o 0 (.mvs 23),.o 1 (.mvs 25)]))))))))
def f183r0:AC:= .v [.o 48 (.mvs 5),.M 49 0,.A 50 56 4 48 49,.M 51 1,.A 52 56 4 50 51,.o 4 (.mvs 52)]
def f183C:AC:= .r [.Z 4 4] (.r [.Z 5 4] (.seq (.block 0 (.loop (f183l0))) (f183r0)))
def f183:Qg:=⟨2,53,[.tmp 4],f183C,false⟩
@[simp] theorem f183B:f183.body=f183C∧f183.res=[.tmp 4]∧f183.keep=false:=⟨rfl,rfl,rfl⟩
def f184l0:AC:= .r [.B 12 .lss 11 10] (.seq (.x 12 0) (.seq (.block 1 (.r [.M 13 11,.X 14 4 9 11,.DT 15 14 4,.T 5,.M 4 13,.S 5 0 4 15] (.r [.M 17 3,.M 18 4,.L 19 5 0 4,.L 20 5 0 4,.c 21 185 [.t 19,.c (.sl true 1 []),.t 20],.M 16 21,.E 22 16 0,.E 23 16 1,.X 24 4 17 18,.n (.st 24 4 (.t 22))] (.r [.M 25 3,.M 26 4,.F 27 5 3,.l 28 5 3 1,.c 29 184 [.t 28],.X 30 4 25 26,.o 31 (.fadr 30 3),.n (.stm 31 29)] (.r [.F 32 5 3,.l 33 5 3 1,.N 34 33,.C 35 .eql 34 0] (.i 35 (.q [.M 36 3,.M 37 4,.X 38 4 36 37,.o 39 (.fadr 38 3),.n (.st 39 1 (.c (.sl true 4 [])))]))))))) (.q [.C 40 .add 11 1,.M 11 40])))
def f184r0:AC:= .v [.M 41 3,.o 2 (.frz 41 4)]
def f184C:AC:= .r [.Z 2 4] (.r [.M 6 0,.N 7 6,.o 8 (.mkg 56 4 zT (.t 7)),.M 3 8] (.seq (.r [.M 9 0,.N 10 9,.I 11 0] (.block 0 (.loop (f184l0)))) (f184r0)))
def f184:Qg:=⟨1,42,[.tmp 2],f184C,false⟩
@[simp] theorem f184B:f184.body=f184C∧f184.res=[.tmp 2]∧f184.keep=false:=⟨rfl,rfl,rfl⟩
def f185l0:AC:= .r [.B 17 .lss 16 15] (.seq (.x 17 0) (.seq (.block 1 (.r [.X 18 1 14 16,.DF 19 18 1,.M 11 19] (.seq (.r [.M 20 11,.C 21 .lss 20 0,.M 22 21,.g 23 (.m 11) 22 false,.g 24 (.m 9) 22 false,.g 25 (.nilck (.t 24)) 22 false,.g 26 (.fadr 25 3) 22 false,.g 27 (.ldg 26 1 false) 22 false,.g 28 (.lenl (.t 27)) 22 false,.g 29 (.bin .geq (.t 23) (.t 28)) 22 false,.Q 30 22 29] (.i 30 (.v [.o 31 (.mkst zG []),.n (.stn 6 0 4 (.t 31) zT),.I 7 7]))) (.q [.M 32 9,.o 33 (.nilck (.t 32)),.o 34 (.fadr 33 3),.o 35 (.ldg 34 1 false),.M 36 11,.X 37 4 35 36,.M 9 37])))) (.q [.C 38 .add 16 1,.M 16 38])))
def f185r0:AC:= .r [.M 39 9,.L 40 5 0 4,.c 41 48 [.t 40],.o 42 (.nilck (.t 39)),.n (.st 42 4 (.t 41))] (.v [.o 43 (.ldg 8 4 true),.S 6 0 4 43,.I 7 0])
def f185C:AC:= .r [.b 3 0,.b 5 2,.T 6,.I 7 0] (.r [.L 12 3 0 4,.c 13 48 [.t 12],.o 8 (.galloc zT),.n (.st 8 4 (.t 13))] (.r [.M 9 8] (.seq (.r [.M 14 1,.N 15 14,.I 16 0] (.block 0 (.loop (f185l0)))) (f185r0))))
def f185:Qg:=⟨3,44,[.cell 6 4 true,.tmp 7],f185C,false⟩
@[simp] theorem f185B:f185.body=f185C∧f185.res=[.cell 6 4 true,.tmp 7]∧f185.keep=false:=⟨rfl,rfl,rfl⟩
def f186C:AC:= .r [.b 1 0,.Z 2 5,.I 3 0] (.seq (.r [.L 7 1 0 4,.c 8 6 [.t 7],.M 4 8] (.r [.M 9 4,.C 10 .neq 9 0] (.i 10 (.v [.M 11 4,.Z 2 5,.M 3 11])))) (.r [.L 13 1 0 4,.c 14 187 [.c (.gs 0 0 0 0),.t 13,.i 1],.M 12 14,.E 15 12 0,.E 16 12 1,.M 5 15,.M 6 16] (.seq (.block 0 (.r [.M 18 6,.o 19 (.un .not (.t 18)),.M 17 19] (.cond (.t 17) (.v [.Z 2 5,.I 3 6]) (.r [.M 21 5,.N 22 21,.C 23 .gtr 22 200,.M 20 23] (.i 20 (.v [.Z 2 5,.I 3 3])))))) (.v [.M 24 5,.o 2 (.frz 24 5),.I 3 0]))))
def f186:Qg:=⟨1,25,[.tmp 2,.tmp 3],f186C,false⟩
@[simp] theorem f186B:f186.body=f186C∧f186.res=[.tmp 2,.tmp 3]∧f186.keep=false:=⟨rfl,rfl,rfl⟩
def f187l0:AC:= .r [.B 55 .lss 54 53] (.seq (.x 55 1) (.seq (.block 2 (.r [.X 56 4 52 54,.DT 57 56 4,.T 11,.S 11 0 4 57] (.r [.M 59 0,.L 60 11 0 4,.M 61 2,.c 62 187 [.t 59,.t 60,.t 61],.M 58 62,.E 63 58 0,.E 64 58 1,.o 0 (.mvs 63),.M 9 64] (.r [.M 65 9,.o 66 (.un .not (.t 65))] (.i 66 (.v [.o 6 (.mov (.c (.gs 0 0 0 0))),.f 7 false])))))) (.q [.C 67 .add 54 1,.M 54 67])))
def f187r0:AC:= .v [.M 68 0,.M 6 68,.f 7 true]
def f187C:AC:= .r [.b 4 1,.o 6 (.mov (.c (.gs 0 0 0 0))),.f 7 false] (.seq (.r [.L 12 4 0 4,.c 13 188 [.t 12],.o 14 (.un .not (.t 13))] (.i 14 (.v [.M 15 0,.L 16 4 0 4,.M 17 2,.o 18 (.mkst [.int .i64 0,.str [],.int .i64 0,.sl true 4 [],.int .i64 0] [(0,4,.t 16),(4,1,.t 17)]),.c 19 189 [.t 15,.t 18],.M 6 19,.f 7 true]))) (.r [.F 20 4 3,.l 21 4 3 1,.N 22 21,.M 8 22] (.seq (.block 0 (.seq (.r [.F 24 4 1,.l 25 4 1 1,.o 26 (.bin .eql (.t 25) (.c (.str [111,110,101]))),.M 27 26,.g 28 (.m 8) 27 true,.g 29 (.bin .neq (.t 28) (.i 0)) 27 true,.P 30 27 29,.M 23 30] (.cond (.t 23) (.skip) (.r [.F 31 4 1,.l 32 4 1 1,.o 33 (.bin .eql (.t 32) (.c (.str [105,110,118]))),.M 34 33,.g 35 (.m 8) 34 true,.g 36 (.bin .neq (.t 35) (.i 1)) 34 true,.P 37 34 36,.M 23 37] (.cond (.t 23) (.skip) (.q [.F 38 4 1,.l 39 4 1 1,.o 40 (.bin .eql (.t 39) (.c (.str [109,117,108]))),.M 41 40,.g 42 (.m 8) 41 true,.g 43 (.bin .lss (.t 42) (.i 2)) 41 true,.P 44 41 43,.M 23 44]))))) (.cond (.t 23) (.v [.o 6 (.mov (.c (.gs 0 0 0 0))),.f 7 false]) (.r [.F 46 4 1,.l 47 4 1 1,.o 48 (.bin .eql (.t 47) (.c (.str [105,110,118]))),.M 45 48] (.i 45 (.q [.M 49 2,.o 50 (.un .neg (.t 49)),.M 2 50])))))) (.r [.f 9 true] (.seq (.r [.F 51 4 3,.l 52 4 3 1,.N 53 52,.I 54 0] (.block 1 (.loop (f187l0)))) (f187r0))))))
def f187:Qg:=⟨3,69,[.tmp 6,.tmp 7],f187C,true⟩
@[simp] theorem f187B:f187.body=f187C∧f187.res=[.tmp 6,.tmp 7]∧f187.keep=true:=⟨rfl,rfl,rfl⟩
def f188C:AC:= .r [.b 1 0,.f 2 false] (.v [.F 3 1 0,.l 4 1 0 1,.C 5 .eql 4 3,.M 6 5,.g 7 (.fad 1 1) 6 true,.g 8 (.ldf 1 1 1 false) 6 true,.g 9 (.bin .eql (.t 8) (.c (.str [109,117,108]))) 6 true,.g 10 (.m 9) 6 true,.g 11 (.fad 1 1) 10 false,.g 12 (.ldf 1 1 1 false) 10 false,.g 13 (.bin .eql (.t 12) (.c (.str [105,110,118]))) 10 false,.g 14 (.pick (.t 10) (.c (.bool true)) (.t 13)) 6 true,.g 15 (.m 14) 6 true,.g 16 (.fad 1 1) 15 false,.g 17 (.ldf 1 1 1 false) 15 false,.g 18 (.bin .eql (.t 17) (.c (.str [111,110,101]))) 15 false,.g 19 (.pick (.t 15) (.c (.bool true)) (.t 18)) 6 true,.P 20 6 19,.M 2 20])
def f188:Qg:=⟨1,21,[.tmp 2],f188C,false⟩
@[simp] theorem f188B:f188.body=f188C∧f188.res=[.tmp 2]∧f188.keep=false:=⟨rfl,rfl,rfl⟩
def f189C:AC:= .r [.b 3 1,.o 4 (.mov (.c (.gs 0 0 0 0)))] (.r [.M 8 0,.F 9 3 0,.L 10 3 0 4,.c 11 191 [.t 8,.t 10,.c (.fn 190 [])],.M 7 11,.E 12 7 0,.E 13 7 1,.M 5 12,.M 6 13] (.seq (.r [.M 14 6,.o 15 (.un .not (.t 14))] (.i 15 (.seq (.z [.M 16 0,.M 17 5,.F 18 3 0,.L 19 3 0 4,.c 20 192 [.t 19],.F 21 3 4,.l 22 3 4 1,.o 23 (.mkst [.int .i64 0,.str [],.int .i64 0,.sl true 4 [],.int .i64 0] [(0,4,.t 20),(4,1,.t 22)]),.o 24 (.mksl 5 [.t 23]),.c 25 194 [.t 16,.t 17,.t 24],.M 4 25]) (.ret)))) (.seq (.z [.M 26 0,.M 27 5,.X 28 5 26 27,.o 29 (.fadr 28 4),.o 30 (.ldg 29 1 false),.F 31 3 4,.l 32 3 4 1,.B 33 .add 30 32,.X 34 5 26 27,.o 35 (.fadr 34 4),.n (.st 35 1 (.t 33))]) (.seq (.r [.M 36 0,.M 37 5,.X 38 5 36 37,.o 39 (.fadr 38 4),.o 40 (.ldg 39 1 false),.C 41 .eql 40 0] (.i 41 (.v [.M 42 0,.M 43 5,.M 44 5,.C 45 .add 44 1,.c 46 195 [.t 42,.t 43,.t 45],.M 4 46]))) (.v [.M 47 0,.M 4 47])))))
def f189:Qg:=⟨2,48,[.tmp 4],f189C,true⟩
@[simp] theorem f189B:f189.body=f189C∧f189.res=[.tmp 4]∧f189.keep=true:=⟨rfl,rfl,rfl⟩
def f190C:AC:= .r [.b 2 0,.b 3 1,.I 4 0] (.v [.F 5 2 0,.L 6 2 0 4,.L 7 3 0 4,.c 8 30 [.t 6,.t 7],.M 4 8])
def f190:Qg:=⟨2,9,[.tmp 4],f190C,false⟩
def f191l0:AC:= .seq (.r [.M 15 9,.M 16 10,.B 17 .lss 15 16] (.x 17 0)) (.block 1 (.r [.M 18 9,.M 19 10,.B 20 .add 18 19,.o 21 (.conv .u64 (.t 20)),.o 22 (.bin .shr (.t 21) (.c (.int .u64 1))),.o 23 (.conv .i64 (.t 22)),.M 11 23] (.seq (.z [.M 24 2,.M 25 0,.M 26 11,.X 27 5 25 26,.o 28 (.ldg 27 5 true),.L 29 4 0 4,.o 30 (.callv (.t 24) [.t 28,.t 29]),.C 31 .lss 30 0]) (.cond (.t 31) (.q [.M 32 11,.C 33 .add 32 1,.M 9 33]) (.q [.M 34 11,.M 10 34])))))
def f191r0:AC:= .seq (.z [.M 35 9,.M 36 9,.M 37 8,.B 38 .lss 36 37,.M 39 38,.g 40 (.m 2) 39 true,.g 41 (.m 0) 39 true,.g 42 (.m 9) 39 true,.g 43 (.idxa 5 (.t 41) (.t 42)) 39 true,.g 44 (.ldg 43 5 true) 39 true,.g 45 (.ldf 4 0 4 true) 39 true,.g 46 (.callv (.t 40) [.t 44,.t 45]) 39 true,.g 47 (.bin .eql (.t 46) (.i 0)) 39 true,.P 48 39 47,.M 6 35,.M 7 48]) (.ret)
def f191C:AC:= .r [.b 4 1,.I 6 0,.f 7 false] (.r [.M 12 0,.N 13 12,.M 8 13] (.r [.M 14 8,.I 9 0,.M 10 14] (.seq (.block 0 (.loop (f191l0))) (f191r0))))
def f191:Qg:=⟨3,49,[.tmp 6,.tmp 7],f191C,false⟩
@[simp] theorem f191B:f191.body=f191C∧f191.res=[.tmp 6,.tmp 7]∧f191.keep=false:=⟨rfl,rfl,rfl⟩
def f192l0:AC:= .r [.B 13 .lss 12 11] (.seq (.x 13 0) (.seq (.block 1 (.r [.M 14 12,.X 15 4 10 12,.o 16 (.ldg 15 4 true),.T 4,.M 3 14,.S 4 0 4 16] (.z [.F 17 1 3,.l 18 1 3 1,.M 19 3,.L 20 4 0 4,.c 21 192 [.t 20],.X 22 4 18 19,.n (.st 22 4 (.t 21))]))) (.q [.C 23 .add 12 1,.M 12 23])))
def f192r0:AC:= .v [.o 24 (.ldfz 1 0 4 3 4),.S 2 0 4 24]
def f192C:AC:= .r [.b 1 0,.T 2] (.r [.F 5 1 3,.l 6 1 3 1,.c 7 193 [.t 6],.F 8 1 3,.S 1 3 1 7] (.seq (.r [.F 9 1 3,.l 10 1 3 1,.N 11 10,.I 12 0] (.block 0 (.loop (f192l0)))) (f192r0)))
def f192:Qg:=⟨1,25,[.cell 2 4 true],f192C,false⟩
@[simp] theorem f192B:f192.body=f192C∧f192.res=[.cell 2 4 true]∧f192.keep=false:=⟨rfl,rfl,rfl⟩
def f195C:AC:= .r [.Z 6 5] (.r [.M 8 0,.M 9 1,.M 10 2,.M 11 0,.N 12 11,.o 13 (.slcc 5 (.t 8) (some (.t 9)) (.t 10) (.t 12))] (.seq (.r [.M 14 1,.M 15 2,.B 16 .eql 14 15] (.i 16 (.v [.M 17 0,.M 6 17]))) (.r [.M 18 0,.N 19 18,.M 7 19] (.seq (.z [.M 20 0,.M 21 1,.o 22 (.slcl 5 (.t 20) none (some (.t 21))),.M 23 0,.M 24 2,.o 25 (.slcl 5 (.t 23) (some (.t 24)) none),.o 26 (.appM 64 5 (.t 22) (.t 25)),.M 0 26]) (.r [.M 27 0,.M 28 0,.N 29 28,.M 30 7,.o 31 (.slcx 5 (.t 27) (some (.t 29)) (some (.t 30))),.n (.clr 5 (.t 31))] (.v [.M 32 0,.M 6 32]))))))
def f195:Qg:=⟨3,33,[.tmp 6],f195C,true⟩
@[simp] theorem f195B:f195.body=f195C∧f195.res=[.tmp 6]∧f195.keep=true:=⟨rfl,rfl,rfl⟩
def f196l0:AC:= .r [.B 36 .lss 35 34] (.seq (.x 36 2) (.seq (.block 3 (.q [.o 37 (.mvs 5),.F 38 8 0,.L 39 8 0 4,.c 40 192 [.t 39],.o 41 (.mksl 4 [.t 40]),.A 42 56 4 37 41,.o 5 (.mvs 42)])) (.q [.C 43 .add 35 1,.M 35 43])))
def f196l1:AC:= .r [.B 48 .lss 47 46] (.seq (.x 48 4) (.seq (.block 5 (.q [.o 49 (.mvs 6),.F 50 8 0,.L 51 8 0 4,.c 52 192 [.t 51],.o 53 (.mksl 4 [.t 52]),.c 54 198 [.c (.str [105,110,118]),.t 53],.o 55 (.mksl 4 [.t 54]),.A 56 56 4 49 55,.o 6 (.mvs 56)])) (.q [.C 57 .add 47 1,.M 47 57])))
def f196r0:AC:= .r [.F 44 8 4,.l 45 8 4 1,.o 46 (.un .neg (.t 45)),.I 47 0] (.block 4 (.loop (f196l1)))
def f196r1:AC:= .q [.C 58 .add 20 1,.M 20 58]
def f196l2:AC:= .r [.B 21 .lss 20 19] (.seq (.x 21 0) (.seq (.block 1 (.r [.X 22 5 18 20,.DT 23 22 5,.o 8 (.alloc [.int .i64 0,.str [],.int .i64 0,.sl true 4 [],.int .i64 0]),.S 8 0 5 23] (.seq (.r [.F 24 8 4,.l 25 8 4 1,.C 26 .gtr 25 8,.M 27 26,.g 28 (.fad 8 4) 27 false,.g 29 (.ldf 8 4 1 false) 27 false,.g 30 (.bin .lss (.t 29) (.i (-8))) 27 false,.Q 31 27 30] (.i 31 (.v [.o 32 (.mkst zG []),.n (.stn 2 0 4 (.t 32) zT),.I 3 3]))) (.seq (.r [.F 33 8 4,.l 34 8 4 1,.I 35 0] (.block 2 (.loop (f196l0)))) (f196r0))))) (f196r1)))
def f196r2:AC:= .r [.M 59 5,.M 60 6,.o 61 (.mksl 1 [.t 59,.t 60]),.c 62 180 [.t 61],.o 9 (.mvs 62)] (.seq (.r [.M 63 9,.N 64 63,.C 65 .gtr 64 8] (.i 65 (.v [.o 66 (.mkst zG []),.n (.stn 2 0 4 (.t 66) zT),.I 3 3]))) (.r [.M 67 9,.c 68 198 [.c (.str [109,117,108]),.t 67],.T 10,.S 10 0 4 68] (.seq (.r [.M 69 9,.N 70 69] (.block 6 (.r [.C 72 .eql 70 0,.M 71 72] (.cond (.t 71) (.q [.c 73 198 [.c (.str [111,110,101]),.c (.sl true 4 [])],.S 10 0 4 73]) (.r [.C 75 .eql 70 1,.M 74 75] (.i 74 (.q [.M 76 9,.o 77 (.idxa 4 (.t 76) (.i 0)),.DT 78 77 4,.S 10 0 4 78]))))))) (.seq (.r [.L 79 10 0 4,.c 80 6 [.t 79],.M 11 80] (.r [.M 81 11,.C 82 .neq 81 0] (.i 82 (.v [.o 83 (.mkst zG []),.M 84 11,.n (.stn 2 0 4 (.t 83) zT),.M 3 84])))) (.v [.L 85 10 0 4,.S 2 0 4 85,.I 3 0])))))
def f196C:AC:= .r [.T 2,.I 3 0] (.seq (.r [.M 12 0,.c 13 197 [.t 12],.M 4 13] (.r [.M 14 4,.C 15 .neq 14 0] (.i 15 (.v [.o 16 (.mkst zG []),.M 17 4,.n (.stn 2 0 4 (.t 16) zT),.M 3 17])))) (.r [.Z 5 4,.Z 6 4] (.seq (.r [.M 18 0,.N 19 18,.I 20 0] (.block 0 (.loop (f196l2)))) (f196r2))))
def f196:Qg:=⟨1,86,[.cell 2 4 true,.tmp 3],f196C,false⟩
@[simp] theorem f196B:f196.body=f196C∧f196.res=[.cell 2 4 true,.tmp 3]∧f196.keep=false:=⟨rfl,rfl,rfl⟩
def f197l0:AC:= .r [.B 12 .lss 11 10] (.seq (.x 12 0) (.seq (.block 1 (.r [.M 13 11,.X 14 5 9 11,.DT 15 14 5,.o 4 (.alloc [.int .i64 0,.str [],.int .i64 0,.sl true 4 [],.int .i64 0]),.M 3 13,.S 4 0 5 15] (.seq (.r [.F 16 4 0,.L 17 4 0 4,.c 18 6 [.t 17],.M 5 18] (.r [.M 19 5,.C 20 .neq 19 0] (.i 20 (.v [.M 21 5,.M 2 21])))) (.block 2 (.r [.F 23 4 0,.L 24 4 0 4,.c 25 188 [.t 24],.M 22 25] (.cond (.t 22) (.v [.I 2 1]) (.r [.F 27 4 4,.l 28 4 4 1,.C 29 .eql 28 0,.M 30 29,.g 31 (.fad 4 4) 30 false,.g 32 (.ldf 4 4 1 false) 30 false,.g 33 (.bin .lss (.t 32) (.i (-1000))) 30 false,.Q 34 30 33,.M 35 34,.g 36 (.fad 4 4) 35 false,.g 37 (.ldf 4 4 1 false) 35 false,.g 38 (.bin .gtr (.t 37) (.i 1000)) 35 false,.Q 39 35 38,.M 26 39] (.cond (.t 26) (.v [.I 2 7]) (.seq (.z [.M 41 3,.C 42 .gtr 41 0,.M 43 42,.g 44 (.m 0) 43 true,.g 45 (.m 3) 43 true,.g 46 (.bin .sub (.t 45) (.i 1)) 43 true,.g 47 (.idxa 5 (.t 44) (.t 46)) 43 true,.g 48 (.fadr 47 0) 43 true,.g 49 (.ld 48 4 true) 43 true,.g 50 (.fad 4 0) 43 true,.g 51 (.ldf 4 0 4 true) 43 true,.g 52 (.call 30 [.t 49,.t 51]) 43 true,.g 53 (.bin .geq (.t 52) (.i 0)) 43 true,.P 54 43 53,.M 40 54]) (.i 40 (.v [.I 2 5]))))))))))) (.q [.C 55 .add 11 1,.M 11 55])))
def f197r0:AC:= .v [.I 2 0]
def f197C:AC:= .r [.I 2 0] (.seq (.r [.M 6 0,.N 7 6,.C 8 .gtr 7 200] (.i 8 (.v [.I 2 3]))) (.seq (.r [.M 9 0,.N 10 9,.I 11 0] (.block 0 (.loop (f197l0)))) (f197r0)))
def f197:Qg:=⟨1,56,[.tmp 2],f197C,false⟩
@[simp] theorem f197B:f197.body=f197C∧f197.res=[.tmp 2]∧f197.keep=false:=⟨rfl,rfl,rfl⟩
def f198C:AC:= .r [.T 4] (.v [.M 5 0,.M 6 1,.o 7 (.mkst zT [(0,1,.i 3),(1,1,.t 5),(3,1,.t 6)]),.S 4 0 4 7])
def f198:Qg:=⟨2,8,[.cell 4 4 true],f198C,false⟩
def f199C:AC:= .r [.b 2 0,.b 3 1,.T 4,.I 5 0] (.r [.L 11 3 0 4,.c 12 186 [.t 11],.M 10 12,.E 13 10 0,.E 14 10 1,.o 6 (.mvs 13),.M 7 14] (.seq (.r [.M 15 7,.C 16 .neq 15 0] (.i 16 (.v [.o 17 (.mkst zG []),.M 18 7,.n (.stn 4 0 4 (.t 17) zT),.M 5 18]))) (.seq (.r [.L 19 2 0 4,.c 20 71 [.t 19,.c (.str [101,120,112])]] (.i 20 (.r [.F 22 2 3,.l 23 2 3 1,.o 24 (.idxa 4 (.t 23) (.i 1)),.DT 25 24 4,.c 26 186 [.t 25],.M 21 26,.E 27 21 0,.E 28 21 1,.o 8 (.mvs 27),.M 9 28] (.seq (.r [.M 29 9,.C 30 .neq 29 0] (.i 30 (.v [.o 31 (.mkst zG []),.M 32 9,.n (.stn 4 0 4 (.t 31) zT),.M 5 32]))) (.seq (.r [.M 34 8,.M 35 6,.c 36 200 [.t 34,.t 35],.M 33 36,.E 37 33 0,.E 38 33 1,.o 6 (.mvs 37),.M 9 38] (.r [.M 39 9,.C 40 .neq 39 0] (.i 40 (.v [.o 41 (.mkst zG []),.M 42 9,.n (.stn 4 0 4 (.t 41) zT),.M 5 42])))) (.q [.F 43 2 3,.l 44 2 3 1,.o 45 (.idxa 4 (.t 44) (.i 0)),.DT 46 45 4,.S 2 0 4 46])))))) (.seq (.r [.M 47 6,.N 48 47,.C 49 .eql 48 0] (.i 49 (.v [.L 50 2 0 4,.S 4 0 4 50,.I 5 0]))) (.r [.M 52 6,.c 53 196 [.t 52],.M 51 53,.E 54 51 0,.E 55 51 1,.S 3 0 4 54,.M 7 55] (.seq (.r [.M 56 7,.C 57 .neq 56 0] (.i 57 (.v [.o 58 (.mkst zG []),.M 59 7,.n (.stn 4 0 4 (.t 58) zT),.M 5 59]))) (.v [.L 60 2 0 4,.L 61 3 0 4,.o 62 (.mksl 4 [.t 60,.t 61]),.c 63 49 [.c (.str [101,120,112]),.t 62],.S 4 0 4 63,.I 5 0])))))))
def f199:Qg:=⟨2,64,[.cell 4 4 true,.tmp 5],f199C,false⟩
@[simp] theorem f199B:f199.body=f199C∧f199.res=[.cell 4 4 true,.tmp 5]∧f199.keep=false:=⟨rfl,rfl,rfl⟩
def f200l0:AC:= .r [.B 26 .lss 25 24] (.seq (.x 26 0) (.seq (.block 1 (.r [.X 27 5 23 25,.DT 28 27 5,.o 10 (.alloc [.int .i64 0,.str [],.int .i64 0,.sl true 4 [],.int .i64 0]),.S 10 0 5 28] (.q [.M 29 8,.L 30 10 0 5,.c 31 189 [.t 29,.t 30],.M 8 31]))) (.q [.C 32 .add 25 1,.M 25 32])))
def f200r0:AC:= .v [.M 33 8,.c 34 202 [.t 33],.E 35 34 0,.E 36 34 1,.o 4 (.mvs 35),.M 5 36]
def f200C:AC:= .r [.Z 4 5,.I 5 0] (.seq (.r [.M 11 0,.c 12 197 [.t 11],.M 6 12] (.r [.M 13 6,.C 14 .neq 13 0] (.i 14 (.v [.M 15 6,.Z 4 5,.M 5 15])))) (.seq (.r [.M 16 1,.c 17 197 [.t 16],.M 7 17] (.r [.M 18 7,.C 19 .neq 18 0] (.i 19 (.v [.M 20 7,.Z 4 5,.M 5 20])))) (.r [.M 21 0,.c 22 201 [.t 21],.M 8 22] (.seq (.r [.M 23 1,.N 24 23,.I 25 0] (.block 0 (.loop (f200l0)))) (f200r0)))))
def f200:Qg:=⟨2,37,[.tmp 4,.tmp 5],f200C,false⟩
@[simp] theorem f200B:f200.body=f200C∧f200.res=[.tmp 4,.tmp 5]∧f200.keep=false:=⟨rfl,rfl,rfl⟩
def f201l0:AC:= .r [.B 9 .lss 8 7] (.seq (.x 9 0) (.seq (.block 1 (.r [.X 10 5 6 8,.DT 11 10 5,.o 5 (.alloc [.int .i64 0,.str [],.int .i64 0,.sl true 4 [],.int .i64 0]),.S 5 0 5 11] (.z [.M 12 3,.F 13 5 0,.L 14 5 0 4,.c 15 192 [.t 14],.F 16 5 4,.l 17 5 4 1,.o 18 (.mkst [.int .i64 0,.str [],.int .i64 0,.sl true 4 [],.int .i64 0] [(0,4,.t 15),(4,1,.t 17)]),.o 19 (.mksl 5 [.t 18]),.o 20 (.appM 64 5 (.t 12) (.t 19)),.M 3 20]))) (.q [.C 21 .add 8 1,.M 8 21])))
def f201r0:AC:= .v [.M 22 3,.M 2 22]
def f201C:AC:= .r [.o 2 (.mov (.c (.gs 0 0 0 0)))] (.r [.o 3 (.mov (.c (.gs 0 0 0 0)))] (.seq (.r [.M 6 0,.N 7 6,.I 8 0] (.block 0 (.loop (f201l0)))) (f201r0)))
def f201:Qg:=⟨1,23,[.tmp 2],f201C,true⟩
@[simp] theorem f201B:f201.body=f201C∧f201.res=[.tmp 2]∧f201.keep=true:=⟨rfl,rfl,rfl⟩
def f202C:AC:= .r [.Z 2 5,.I 3 0] (.seq (.r [.M 4 0,.c 5 204 [.t 4,.c (.fn 203 [])]] (.i 5 (.v [.Z 2 5,.I 3 7]))) (.seq (.r [.M 6 0,.N 7 6,.C 8 .gtr 7 200] (.i 8 (.v [.Z 2 5,.I 3 3]))) (.v [.M 9 0,.o 2 (.frz 9 5),.I 3 0])))
def f202:Qg:=⟨1,10,[.tmp 2,.tmp 3],f202C,false⟩
@[simp] theorem f202B:f202.body=f202C∧f202.res=[.tmp 2,.tmp 3]∧f202.keep=false:=⟨rfl,rfl,rfl⟩
def f203C:AC:= .r [.b 1 0,.f 2 false] (.v [.F 3 1 4,.l 4 1 4 1,.C 5 .lss 4 (-1000),.M 6 5,.g 7 (.fad 1 4) 6 false,.g 8 (.ldf 1 4 1 false) 6 false,.g 9 (.bin .gtr (.t 8) (.i 1000)) 6 false,.Q 10 6 9,.M 2 10])
def f203:Qg:=⟨1,11,[.tmp 2],f203C,false⟩
@[simp] theorem f203B:f203.body=f203C∧f203.res=[.tmp 2]∧f203.keep=false:=⟨rfl,rfl,rfl⟩
def f204C:AC:= .r [.f 4 false] (.v [.M 5 0,.M 6 1,.c 7 205 [.t 5,.t 6],.C 8 .geq 7 0,.M 4 8])
def f204:Qg:=⟨2,9,[.tmp 4],f204C,false⟩
@[simp] theorem f204B:f204.body=f204C∧f204.res=[.tmp 4]∧f204.keep=false:=⟨rfl,rfl,rfl⟩
def f205l0:AC:= .r [.B 9 .lss 8 7] (.seq (.x 9 0) (.seq (.block 1 (.r [.M 10 8,.M 5 10] (.r [.M 11 1,.M 12 0,.M 13 5,.X 14 5 12 13,.o 15 (.ldg 14 5 true),.o 16 (.callv (.t 11) [.t 15])] (.i 16 (.v [.M 17 5,.M 4 17]))))) (.q [.C 18 .add 8 1,.M 8 18])))
def f205r0:AC:= .v [.I 4 (-1)]
def f205C:AC:= .r [.I 4 0] (.seq (.r [.M 6 0,.N 7 6,.I 8 0] (.block 0 (.loop (f205l0)))) (f205r0))
def f205:Qg:=⟨2,19,[.tmp 4],f205C,false⟩
@[simp] theorem f205B:f205.body=f205C∧f205.res=[.tmp 4]∧f205.keep=false:=⟨rfl,rfl,rfl⟩
def f206C:AC:= .r [.f 2 false] (.v [.M 3 0,.c 4 43 [.t 3],.o 5 (.fld 3 1 false (.t 4)),.C 6 .neq 5 3,.M 2 6])
def f206:Qg:=⟨1,7,[.tmp 2],f206C,false⟩
@[simp] theorem f206B:f206.body=f206C∧f206.res=[.tmp 2]∧f206.keep=false:=⟨rfl,rfl,rfl⟩
def f207l0:AC:= .r [.B 21 .lss 20 19] (.seq (.x 21 0) (.seq (.block 1 (.r [.X 22 4 18 20,.DT 23 22 4,.T 6,.S 6 0 4 23] (.r [.L 24 6 0 4,.M 25 1,.c 26 207 [.t 24,.t 25],.o 27 (.un .not (.t 26))] (.i 27 (.v [.f 4 false]))))) (.q [.C 28 .add 20 1,.M 20 28])))
def f207r0:AC:= .v [.f 4 true]
def f207C:AC:= .r [.b 2 0,.f 4 false] (.seq (.r [.F 7 2 0,.l 8 2 0 1,.C 9 .eql 8 3,.M 10 9,.g 11 (.m 1) 10 true,.g 12 (.fad 2 1) 10 true,.g 13 (.ldf 2 1 1 false) 10 true,.g 14 (.callv (.t 11) [.t 13]) 10 true,.g 15 (.un .not (.t 14)) 10 true,.P 16 10 15] (.i 16 (.v [.f 4 false]))) (.seq (.r [.F 17 2 3,.l 18 2 3 1,.N 19 18,.I 20 0] (.block 0 (.loop (f207l0)))) (f207r0)))
def f207:Qg:=⟨2,29,[.tmp 4],f207C,false⟩
@[simp] theorem f207B:f207.body=f207C∧f207.res=[.tmp 4]∧f207.keep=false:=⟨rfl,rfl,rfl⟩
def f214C:AC:= .r [.f 4 false] (.v [.M 5 0,.M 6 1,.c 7 215 [.t 5,.t 6],.C 8 .geq 7 0,.M 4 8])
def f214:Qg:=⟨2,9,[.tmp 4],f214C,false⟩
@[simp] theorem f214B:f214.body=f214C∧f214.res=[.tmp 4]∧f214.keep=false:=⟨rfl,rfl,rfl⟩
def f215l0:AC:= .r [.B 9 .lss 8 7] (.seq (.x 9 0) (.seq (.block 1 (.r [.M 10 8,.M 5 10] (.r [.M 11 1,.M 12 0,.M 13 5,.X 14 4 12 13,.DT 15 14 4,.o 16 (.callv (.t 11) [.t 15])] (.i 16 (.v [.M 17 5,.M 4 17]))))) (.q [.C 18 .add 8 1,.M 8 18])))
def f215r0:AC:= .v [.I 4 (-1)]
def f215C:AC:= .r [.I 4 0] (.seq (.r [.M 6 0,.N 7 6,.I 8 0] (.block 0 (.loop (f215l0)))) (f215r0))
def f215:Qg:=⟨2,19,[.tmp 4],f215C,false⟩
@[simp] theorem f215B:f215.body=f215C∧f215.res=[.tmp 4]∧f215.keep=false:=⟨rfl,rfl,rfl⟩
def f250l0:AC:= .seq (.r [.M 6 5,.M 7 0,.N 8 7,.B 9 .lss 6 8] (.x 9 0)) (.seq (.block 1 (.seq (.z [.M 12 0,.M 13 5,.X 14 4 12 13,.DT 15 14 4,.L 16 3 0 4,.c 17 89 [.t 15,.t 16]]) (.i 17 (.v [.f 4 true])))) (.q [.M 10 5,.C 11 .add 10 1,.M 5 11]))
def f250r0:AC:= .v [.f 4 false]
def f250C:AC:= .r [.b 3 1,.f 4 false] (.seq (.r [.I 5 0] (.block 0 (.loop (f250l0)))) (f250r0))
def f250:Qg:=⟨2,18,[.tmp 4],f250C,false⟩
@[simp] theorem f250B:f250.body=f250C∧f250.res=[.tmp 4]∧f250.keep=false:=⟨rfl,rfl,rfl⟩
def f363l0:AC:= .r [.B 10 .lss 9 8] (.seq (.x 10 0) (.seq (.block 1 (.r [.M 11 9,.M 4 11] (.q [.M 12 3,.M 13 4,.M 14 3,.M 15 4,.X 16 5 14 15,.o 17 (.fadr 16 4),.o 18 (.ldg 17 1 false),.o 19 (.un .neg (.t 18)),.X 20 5 12 13,.o 21 (.fadr 20 4),.n (.st 21 1 (.t 19))]))) (.q [.C 22 .add 9 1,.M 9 22])))
def f363r0:AC:= .v [.M 23 3,.o 2 (.frz 23 5)]
def f363C:AC:= .r [.Z 2 5] (.r [.M 5 0,.c 6 201 [.t 5],.M 3 6] (.seq (.r [.M 7 3,.N 8 7,.I 9 0] (.block 0 (.loop (f363l0)))) (f363r0)))
def f363:Qg:=⟨1,24,[.tmp 2],f363C,false⟩
def f373l0:AC:= .r [.B 17 .lss 16 15] (.seq (.x 17 2) (.seq (.block 3 (.r [.X 18 5 14 16,.DT 19 18 5,.o 7 (.alloc [.int .i64 0,.str [],.int .i64 0,.sl true 4 [],.int .i64 0]),.S 7 0 5 19] (.q [.M 20 3,.F 21 7 0,.L 22 7 0 4,.o 23 (.mksl 4 [.t 22]),.o 24 (.appM 56 4 (.t 20) (.t 23)),.M 3 24]))) (.q [.C 25 .add 16 1,.M 16 25])))
def f373r0:AC:= .q [.C 26 .add 10 1,.M 10 26]
def f373l1:AC:= .r [.B 11 .lss 10 9] (.seq (.x 11 0) (.seq (.block 1 (.r [.X 12 1 8 10,.DF 13 12 1,.o 5 (.mvs 13)] (.r [.M 14 5,.N 15 14,.I 16 0] (.block 2 (.loop (f373l0)))))) (f373r0)))
def f373r1:AC:= .r [.M 27 3,.c 28 170 [.t 27,.c (.fn 30 [])]] (.v [.M 29 3,.c 30 497 [.t 29,.c (.fn 375 [])],.o 2 (.mvs 30)])
def f373C:AC:= .r [.Z 2 4] (.r [.o 3 (.mov (.c (.gs 0 0 0 0)))] (.seq (.r [.M 8 0,.N 9 8,.I 10 0] (.block 0 (.loop (f373l1)))) (f373r1)))
def f373:Qg:=⟨1,31,[.tmp 2],f373C,false⟩
@[simp] theorem f373B:f373.body=f373C∧f373.res=[.tmp 2]∧f373.keep=false:=⟨rfl,rfl,rfl⟩
def f375C:AC:= .r [.b 2 0,.b 3 1,.f 4 false] (.v [.L 5 2 0 4,.L 6 3 0 4,.c 7 30 [.t 5,.t 6],.C 8 .eql 7 0,.M 4 8])
def f375:Qg:=⟨2,9,[.tmp 4],f375C,false⟩
@[simp] theorem f375B:f375.body=f375C∧f375.res=[.tmp 4]∧f375.keep=false:=⟨rfl,rfl,rfl⟩
def f378l0:AC:= .seq (.r [.M 15 9,.M 16 10,.B 17 .lss 15 16] (.x 17 0)) (.block 1 (.r [.M 18 9,.M 19 10,.B 20 .add 18 19,.o 21 (.conv .u64 (.t 20)),.o 22 (.bin .shr (.t 21) (.c (.int .u64 1))),.o 23 (.conv .i64 (.t 22)),.M 11 23] (.seq (.z [.M 24 2,.M 25 0,.M 26 11,.X 27 4 25 26,.DT 28 27 4,.L 29 4 0 4,.o 30 (.callv (.t 24) [.t 28,.t 29]),.C 31 .lss 30 0]) (.cond (.t 31) (.q [.M 32 11,.C 33 .add 32 1,.M 9 33]) (.q [.M 34 11,.M 10 34])))))
def f378r0:AC:= .seq (.z [.M 35 9,.M 36 9,.M 37 8,.B 38 .lss 36 37,.M 39 38,.g 40 (.m 2) 39 true,.g 41 (.m 0) 39 true,.g 42 (.m 9) 39 true,.g 43 (.idxa 4 (.t 41) (.t 42)) 39 true,.g 44 (.ld 43 4 true) 39 true,.g 45 (.ldf 4 0 4 true) 39 true,.g 46 (.callv (.t 40) [.t 44,.t 45]) 39 true,.g 47 (.bin .eql (.t 46) (.i 0)) 39 true,.P 48 39 47,.M 6 35,.M 7 48]) (.ret)
def f378C:AC:= .r [.b 4 1,.I 6 0,.f 7 false] (.r [.M 12 0,.N 13 12,.M 8 13] (.r [.M 14 8,.I 9 0,.M 10 14] (.seq (.block 0 (.loop (f378l0))) (f378r0))))
def f378:Qg:=⟨3,49,[.tmp 6,.tmp 7],f378C,false⟩
@[simp] theorem f378B:f378.body=f378C∧f378.res=[.tmp 6,.tmp 7]∧f378.keep=false:=⟨rfl,rfl,rfl⟩
def f418C:AC:= .r [.b 1 0,.T 2,.I 3 0] (.seq (.r [.L 5 1 0 4,.c 6 41 [.t 5],.M 4 6] (.r [.M 7 4,.C 8 .neq 7 0] (.i 8 (.v [.o 9 (.mkst zG []),.M 10 4,.n (.stn 2 0 4 (.t 9) zT),.M 3 10])))) (.seq (.block 0 (.r [.L 12 1 0 4,.c 13 71 [.t 12,.c (.str [101,110,99])],.M 11 13] (.cond (.t 11) (.v [.F 14 1 3,.l 15 1 3 1,.o 16 (.idxa 4 (.t 15) (.i 1)),.DT 17 16 4,.c 18 46 [.t 17],.S 2 0 4 18,.I 3 0]) (.r [.L 20 1 0 4,.c 21 71 [.t 20,.c (.str [97,101,110,99])],.o 22 (.un .not (.t 21)),.M 19 22] (.cond (.t 19) (.v [.o 23 (.mkst zG []),.n (.stn 2 0 4 (.t 23) zT),.I 3 10]) (.r [.F 25 1 3,.l 26 1 3 1,.o 27 (.idxa 4 (.t 26) (.i 1)),.DT 28 27 4,.c 29 71 [.t 28,.c (.str [112,107])],.o 30 (.un .not (.t 29)),.M 24 30] (.i 24 (.v [.o 31 (.mkst zG []),.n (.stn 2 0 4 (.t 31) zT),.I 3 4])))))))) (.v [.F 32 1 3,.l 33 1 3 1,.o 34 (.idxa 4 (.t 33) (.i 1)),.o 35 (.fadr 34 3),.DF 36 35 1,.o 37 (.idxa 4 (.t 36) (.i 0)),.DT 38 37 4,.c 39 46 [.t 38],.S 2 0 4 39,.I 3 0])))
def f418:Qg:=⟨1,40,[.cell 2 4 true,.tmp 3],f418C,false⟩
@[simp] theorem f418B:f418.body=f418C∧f418.res=[.cell 2 4 true,.tmp 3]∧f418.keep=false:=⟨rfl,rfl,rfl⟩
def f497l0:AC:= .seq (.r [.M 32 7,.M 33 6,.N 34 33,.B 35 .lss 32 34] (.x 35 2)) (.seq (.block 3 (.seq (.z [.M 38 1,.M 39 6,.M 40 7,.X 41 4 39 40,.o 42 (.ldg 41 4 true),.M 43 6,.M 44 7,.C 45 .sub 44 1,.X 46 4 43 45,.o 47 (.ldg 46 4 true),.o 48 (.callv (.t 38) [.t 42,.t 47]),.o 49 (.un .not (.t 48))]) (.i 49 (.r [.M 50 0,.M 51 5,.M 52 6,.M 53 7,.X 54 4 52 53,.o 55 (.ldg 54 4 true),.X 56 4 50 51,.n (.st 56 4 (.t 55))] (.q [.M 57 5,.C 58 .add 57 1,.M 5 58]))))) (.q [.M 36 7,.C 37 .add 36 1,.M 7 37]))
def f497r0:AC:= .r [.M 59 0,.M 60 5,.o 61 (.slcl 4 (.t 59) (some (.t 60)) none),.n (.clr 4 (.t 61))] (.v [.M 62 0,.M 63 5,.o 64 (.slcl 4 (.t 62) none (some (.t 63))),.o 4 (.frz 64 4)])
def f497r1:AC:= .q [.M 16 5,.C 17 .add 16 1,.M 5 17]
def f497l1:AC:= .seq (.r [.M 12 5,.M 13 0,.N 14 13,.B 15 .lss 12 14] (.x 15 0)) (.seq (.block 1 (.seq (.z [.M 18 1,.M 19 0,.M 20 5,.X 21 4 19 20,.o 22 (.ldg 21 4 true),.M 23 0,.M 24 5,.C 25 .sub 24 1,.X 26 4 23 25,.o 27 (.ldg 26 4 true),.o 28 (.callv (.t 18) [.t 22,.t 27])]) (.i 28 (.r [.M 29 0,.M 30 5,.o 31 (.slcl 4 (.t 29) (some (.t 30)) none),.M 6 31] (.seq (.r [.I 7 1] (.block 2 (.loop (f497l0)))) (f497r0)))))) (f497r1))
def f497r2:AC:= .v [.M 65 0,.o 4 (.frz 65 4)]
def f497C:AC:= .r [.Z 4 4] (.seq (.r [.M 8 0,.N 9 8,.C 10 .lss 9 2] (.i 10 (.v [.M 11 0,.o 4 (.frz 11 4)]))) (.seq (.r [.I 5 1] (.block 0 (.loop (f497l1)))) (f497r2)))
def f497:Qg:=⟨2,66,[.tmp 4],f497C,false⟩
@[simp] theorem f497B:f497.body=f497C∧f497.res=[.tmp 4]∧f497.keep=false:=⟨rfl,rfl,rfl⟩
def f511l0:AC:= .r [.B 9 .lss 8 7] (.seq (.x 9 0) (.seq (.block 1 (.r [.X 10 4 6 8,.DT 11 10 4,.T 5,.S 5 0 4 11] (.q [.L 12 5 0 4,.o 13 (.mkfn 512 [.t 3]),.c 14 168 [.t 12,.t 13]]))) (.q [.C 15 .add 8 1,.M 8 15])))
def f511r0:AC:= .v [.o 16 (.ldg 3 1 false),.c 17 169 [.t 16],.o 2 (.mvs 17)]
def f511C:AC:= .r [.Z 2 4] (.r [.o 3 (.galloc [.gs 0 0 0 0])] (.seq (.r [.M 6 0,.N 7 6,.I 8 0] (.block 0 (.loop (f511l0)))) (f511r0)))
def f511:Qg:=⟨1,18,[.tmp 2],f511C,false⟩
@[simp] theorem f511B:f511.body=f511C∧f511.res=[.tmp 2]∧f511.keep=false:=⟨rfl,rfl,rfl⟩
def f512C:AC:= .r [.b 2 0] (.z [.o 3 (.ldg 1 1 false),.L 4 2 0 4,.N 5 3,.o 6 (.mksl 4 [.c (.agg zT)]),.o 7 (.appM 56 4 (.t 3) (.t 6)),.X 8 4 7 5,.n (.stq 8 4 (.t 4) 1),.n (.st 1 1 (.t 7))])
def f512:Qg:=⟨2,9,[],f512C,true⟩
def f517C:AC:= .r [.b 3 1,.f 4 false,.I 5 0] (.r [.M 9 0,.L 10 3 0 4,.o 11 (.mksl 4 [.t 10]),.c 12 518 [.t 9,.t 11],.M 8 12,.E 13 8 0,.E 14 8 1,.o 6 (.mvs 13),.M 7 14] (.seq (.r [.M 15 7,.C 16 .neq 15 0] (.i 16 (.v [.M 17 7,.f 4 false,.M 5 17]))) (.seq (.z [.M 18 0,.c 19 527 [.t 18],.M 20 6,.c 21 529 [.t 19,.t 20],.L 22 3 0 4,.c 23 530 [.t 21,.t 22],.M 4 23,.I 5 0]) (.ret))))
def f517:Qg:=⟨2,24,[.tmp 4,.tmp 5],f517C,false⟩
@[simp] theorem f517B:f517.body=f517C∧f517.res=[.tmp 4,.tmp 5]∧f517.keep=false:=⟨rfl,rfl,rfl⟩
def f518C:AC:= .r [.Z 4 4,.I 5 0] (.seq (.r [.M 10 0,.N 11 10,.C 12 .gtr 11 60] (.i 12 (.v [.Z 4 4,.I 5 3]))) (.r [.M 13 0,.M 14 1,.o 15 (.mksl 1 [.t 13,.t 14]),.c 16 180 [.t 15],.o 6 (.mvs 16)] (.seq (.r [.M 17 6,.c 18 519 [.t 17],.M 7 18] (.r [.M 19 7,.C 20 .neq 19 0] (.i 20 (.v [.M 21 7,.Z 4 4,.M 5 21])))) (.r [.M 22 6,.c 23 511 [.t 22],.o 8 (.mvs 23)] (.seq (.r [.M 24 8,.c 25 521 [.t 24],.M 9 25] (.r [.M 26 9,.C 27 .neq 26 0] (.i 27 (.v [.M 28 9,.Z 4 4,.M 5 28])))) (.v [.M 29 8,.o 4 (.mvs 29),.I 5 0]))))))
def f518:Qg:=⟨2,30,[.tmp 4,.tmp 5],f518C,false⟩
@[simp] theorem f518B:f518.body=f518C∧f518.res=[.tmp 4,.tmp 5]∧f518.keep=false:=⟨rfl,rfl,rfl⟩
def f519l0:AC:= .r [.B 9 .lss 8 7] (.seq (.x 9 0) (.seq (.block 1 (.r [.X 10 4 6 8,.DT 11 10 4,.T 4,.S 4 0 4 11] (.r [.L 12 4 0 4,.c 13 520 [.t 12],.M 5 13] (.r [.M 14 5,.C 15 .neq 14 0] (.i 15 (.v [.M 16 5,.M 2 16])))))) (.q [.C 17 .add 8 1,.M 8 17])))
def f519r0:AC:= .v [.I 2 0]
def f519C:AC:= .r [.I 2 0] (.seq (.r [.M 6 0,.N 7 6,.I 8 0] (.block 0 (.loop (f519l0)))) (f519r0))
def f519:Qg:=⟨1,18,[.tmp 2],f519C,false⟩
@[simp] theorem f519B:f519.body=f519C∧f519.res=[.tmp 2]∧f519.keep=false:=⟨rfl,rfl,rfl⟩
def f520C:AC:= .r [.b 1 0,.I 2 0] (.seq (.r [.L 4 1 0 4,.c 5 41 [.t 4],.M 3 5] (.r [.M 6 3,.C 7 .neq 6 0] (.i 7 (.v [.M 8 3,.M 2 8])))) (.seq (.block 0 (.r [.L 10 1 0 4,.c 11 165 [.t 10],.N 12 11,.C 13 .gtr 12 0,.M 9 13] (.cond (.t 9) (.v [.I 2 13]) (.r [.L 15 1 0 4,.c 16 173 [.t 15],.o 17 (.un .not (.t 16)),.M 14 17] (.i 14 (.v [.I 2 10])))))) (.v [.I 2 0])))
def f520:Qg:=⟨1,18,[.tmp 2],f520C,false⟩
@[simp] theorem f520B:f520.body=f520C∧f520.res=[.tmp 2]∧f520.keep=false:=⟨rfl,rfl,rfl⟩
def f521l0:AC:= .r [.B 38 .lss 37 36] (.seq (.x 38 3) (.seq (.block 4 (.r [.X 39 5 35 37,.DT 40 39 5,.o 10 (.alloc [.int .i64 0,.str [],.int .i64 0,.sl true 4 [],.int .i64 0]),.S 10 0 5 40] (.q [.M 41 4,.F 42 10 0,.L 43 10 0 4,.c 44 523 [.t 41,.t 43],.o 4 (.mvs 44)]))) (.q [.C 45 .add 37 1,.M 37 45])))
def f521r0:AC:= .q [.C 46 .add 13 1,.M 13 46]
def f521l1:AC:= .r [.B 14 .lss 13 12] (.seq (.x 14 0) (.seq (.block 1 (.r [.X 15 4 11 13,.DT 16 15 4,.T 6,.S 6 0 4 16] (.seq (.block 2 (.r [.L 18 6 0 4,.c 19 522 [.t 18],.M 17 19] (.cond (.t 17) (.q [.M 20 3,.C 21 .add 20 1,.M 3 21]) (.r [.L 23 6 0 4,.o 24 (.mksl 1 [.c (.str [101,120,112])]),.c 25 160 [.t 23,.t 24],.M 22 25] (.cond (.t 22) (.q [.F 26 6 3,.l 27 6 3 1,.o 28 (.idxa 4 (.t 27) (.i 1)),.DT 29 28 4,.S 6 0 4 29]) (.exit 1)))))) (.r [.L 31 6 0 4,.c 32 186 [.t 31],.M 30 32,.E 33 30 0,.E 34 30 1,.o 7 (.mvs 33),.M 8 34] (.r [.M 35 7,.N 36 35,.I 37 0] (.block 3 (.loop (f521l0)))))))) (f521r0)))
def f521r1:AC:= .seq (.r [.M 47 0,.N 48 47,.C 49 .gtr 48 200,.M 50 49,.g 51 (.m 3) 50 false,.g 52 (.bin .gtr (.t 51) (.i 4)) 50 false,.Q 53 50 52,.M 54 53,.g 55 (.m 4) 54 false,.g 56 (.lenl (.t 55)) 54 false,.g 57 (.bin .gtr (.t 56) (.i 8)) 54 false,.Q 58 54 57] (.i 58 (.v [.I 2 3]))) (.v [.I 2 0])
def f521C:AC:= .r [.I 2 0] (.r [.I 3 0] (.r [.Z 4 4] (.seq (.r [.M 11 0,.N 12 11,.I 13 0] (.block 0 (.loop (f521l1)))) (f521r1))))
def f521:Qg:=⟨1,59,[.tmp 2],f521C,false⟩
@[simp] theorem f521B:f521.body=f521C∧f521.res=[.tmp 2]∧f521.keep=false:=⟨rfl,rfl,rfl⟩
def f522C:AC:= .r [.b 1 0,.f 2 false] (.v [.L 3 1 0 4,.o 4 (.mksl 1 [.c (.str [109,117,108]),.c (.str [105,110,118])]),.c 5 160 [.t 3,.t 4],.M 2 5])
def f522:Qg:=⟨1,6,[.tmp 2],f522C,false⟩
@[simp] theorem f522B:f522.body=f522C∧f522.res=[.tmp 2]∧f522.keep=false:=⟨rfl,rfl,rfl⟩
def f523C:AC:= .r [.b 3 1,.Z 4 4] (.r [.M 8 0,.L 9 3 0 4,.c 10 524 [.t 8,.t 9,.c (.fn 30 [])],.M 7 10,.E 11 7 0,.E 12 7 1,.M 5 11,.M 6 12] (.seq (.r [.M 13 6] (.i 13 (.v [.M 14 0,.o 4 (.mvs 14)]))) (.seq (.z [.M 15 0,.c 16 525 [.t 15],.M 17 5,.L 18 3 0 4,.o 19 (.mksl 4 [.t 18]),.c 20 526 [.t 16,.t 17,.t 19],.o 4 (.frz 20 4)]) (.ret))))
def f523:Qg:=⟨2,21,[.tmp 4],f523C,false⟩
@[simp] theorem f523B:f523.body=f523C∧f523.res=[.tmp 4]∧f523.keep=false:=⟨rfl,rfl,rfl⟩
def f524l0:AC:= .seq (.r [.M 15 9,.M 16 10,.B 17 .lss 15 16] (.x 17 0)) (.block 1 (.r [.M 18 9,.M 19 10,.B 20 .add 18 19,.o 21 (.conv .u64 (.t 20)),.o 22 (.bin .shr (.t 21) (.c (.int .u64 1))),.o 23 (.conv .i64 (.t 22)),.M 11 23] (.seq (.z [.M 24 2,.M 25 0,.M 26 11,.X 27 4 25 26,.DT 28 27 4,.L 29 4 0 4,.o 30 (.callv (.t 24) [.t 28,.t 29]),.C 31 .lss 30 0]) (.cond (.t 31) (.q [.M 32 11,.C 33 .add 32 1,.M 9 33]) (.q [.M 34 11,.M 10 34])))))
def f524r0:AC:= .seq (.z [.M 35 9,.M 36 9,.M 37 8,.B 38 .lss 36 37,.M 39 38,.g 40 (.m 2) 39 true,.g 41 (.m 0) 39 true,.g 42 (.m 9) 39 true,.g 43 (.idxa 4 (.t 41) (.t 42)) 39 true,.g 44 (.ld 43 4 true) 39 true,.g 45 (.ldf 4 0 4 true) 39 true,.g 46 (.callv (.t 40) [.t 44,.t 45]) 39 true,.g 47 (.bin .eql (.t 46) (.i 0)) 39 true,.P 48 39 47,.M 6 35,.M 7 48]) (.ret)
def f524C:AC:= .r [.b 4 1,.I 6 0,.f 7 false] (.r [.M 12 0,.N 13 12,.M 8 13] (.r [.M 14 8,.I 9 0,.M 10 14] (.seq (.block 0 (.loop (f524l0))) (f524r0))))
def f524:Qg:=⟨3,49,[.tmp 6,.tmp 7],f524C,false⟩
@[simp] theorem f524B:f524.body=f524C∧f524.res=[.tmp 6,.tmp 7]∧f524.keep=false:=⟨rfl,rfl,rfl⟩
def f527C:AC:= .r [.Z 2 4] (.r [.M 4 0,.c 5 193 [.t 4],.M 3 5] (.r [.M 6 3,.c 7 170 [.t 6,.c (.fn 30 [])]] (.v [.M 8 3,.c 9 497 [.t 8,.c (.fn 528 [])],.o 2 (.mvs 9)])))
def f527:Qg:=⟨1,10,[.tmp 2],f527C,false⟩
@[simp] theorem f527B:f527.body=f527C∧f527.res=[.tmp 2]∧f527.keep=false:=⟨rfl,rfl,rfl⟩
def f528C:AC:= .r [.b 2 0,.b 3 1,.f 4 false] (.v [.L 5 2 0 4,.L 6 3 0 4,.c 7 30 [.t 5,.t 6],.C 8 .eql 7 0,.M 4 8])
def f528:Qg:=⟨2,9,[.tmp 4],f528C,false⟩
@[simp] theorem f528B:f528.body=f528C∧f528.res=[.tmp 4]∧f528.keep=false:=⟨rfl,rfl,rfl⟩
def f529l0:AC:= .r [.B 12 .lss 11 10] (.seq (.x 12 2) (.seq (.block 3 (.r [.X 13 4 9 11,.DT 14 13 4,.T 7,.S 7 0 4 14] (.r [.M 15 0,.L 16 7 0 4,.c 17 530 [.t 15,.t 16],.o 18 (.un .not (.t 17)),.M 19 18,.g 20 (.m 0) 19 true,.g 21 (.ldf 7 0 4 true) 19 true,.g 22 (.call 531 [.t 20,.t 21]) 19 true,.P 23 19 22] (.i 23 (.r [.M 24 0,.L 25 7 0 4,.c 26 523 [.t 24,.t 25],.o 0 (.mvs 26)] (.q [.f 5 true])))))) (.q [.C 27 .add 11 1,.M 11 27])))
def f529l1:AC:= .seq (.r [.M 8 5] (.x 8 0)) (.block 1 (.r [.f 5 false] (.r [.M 9 1,.N 10 9,.I 11 0] (.block 2 (.loop (f529l0))))))
def f529r0:AC:= .v [.M 28 0,.o 4 (.mvs 28)]
def f529C:AC:= .r [.Z 4 4] (.seq (.r [.f 5 true] (.block 0 (.loop (f529l1)))) (f529r0))
def f529:Qg:=⟨2,29,[.tmp 4],f529C,false⟩
@[simp] theorem f529B:f529.body=f529C∧f529.res=[.tmp 4]∧f529.keep=false:=⟨rfl,rfl,rfl⟩
def f530C:AC:= .r [.b 3 1,.f 4 false] (.r [.M 8 0,.L 9 3 0 4,.c 10 524 [.t 8,.t 9,.c (.fn 30 [])],.M 7 10,.E 11 7 0,.E 12 7 1,.M 5 11,.M 6 12] (.v [.M 13 6,.M 4 13]))
def f530:Qg:=⟨2,14,[.tmp 4],f530C,false⟩
@[simp] theorem f530B:f530.body=f530C∧f530.res=[.tmp 4]∧f530.keep=false:=⟨rfl,rfl,rfl⟩
def f531C:AC:= .r [.b 3 1,.f 4 false] (.v [.M 5 0,.L 6 3 0 4,.c 7 530 [.t 5,.t 6],.M 8 7,.g 9 (.ldf 3 0 4 true) 8 false,.g 10 (.call 159 [.t 9]) 8 false,.Q 11 8 10,.M 12 11,.g 13 (.m 0) 12 false,.g 14 (.ldf 3 0 4 true) 12 false,.g 15 (.call 532 [.t 13,.t 14]) 12 false,.Q 16 12 15,.M 17 16,.g 18 (.m 0) 17 false,.g 19 (.ldf 3 0 4 true) 17 false,.g 20 (.call 534 [.t 18,.t 19]) 17 false,.Q 21 17 20,.M 22 21,.g 23 (.m 0) 22 false,.g 24 (.ldf 3 0 4 true) 22 false,.g 25 (.call 539 [.t 23,.t 24]) 22 false,.Q 26 22 25,.M 27 26,.g 28 (.m 0) 27 false,.g 29 (.ldf 3 0 4 true) 27 false,.g 30 (.call 552 [.t 28,.t 29]) 27 false,.Q 31 27 30,.M 32 31,.g 33 (.m 0) 32 false,.g 34 (.ldf 3 0 4 true) 32 false,.g 35 (.call 568 [.t 33,.t 34]) 32 false,.Q 36 32 35,.M 4 36])
def f531:Qg:=⟨2,37,[.tmp 4],f531C,false⟩
@[simp] theorem f531B:f531.body=f531C∧f531.res=[.tmp 4]∧f531.keep=false:=⟨rfl,rfl,rfl⟩
def f532C:AC:= .r [.o 2 (.gbox (.t 0)),.b 3 1,.f 4 false] (.v [.L 5 3 0 4,.o 6 (.mksl 1 [.c (.str [112,97,105,114]),.c (.str [101,110,99]),.c (.str [97,101,110,99]),.c (.str [112,107]),.c (.str [115,105,103,110]),.c (.str [104,97,115,104])]),.c 7 160 [.t 5,.t 6],.M 8 7,.g 9 (.fad 3 3) 8 true,.g 10 (.ldf 3 3 1 false) 8 true,.g 11 (.mkfn 533 [.t 2]) 8 true,.g 12 (.call 214 [.t 10,.t 11]) 8 true,.g 13 (.un .not (.t 12)) 8 true,.P 14 8 13,.M 4 14])
def f532:Qg:=⟨2,15,[.tmp 4],f532C,false⟩
@[simp] theorem f532B:f532.body=f532C∧f532.res=[.tmp 4]∧f532.keep=false:=⟨rfl,rfl,rfl⟩
def f533C:AC:= .r [.b 2 0,.f 3 false] (.v [.o 4 (.ldg 1 1 false),.L 5 2 0 4,.c 6 530 [.t 4,.t 5],.o 7 (.un .not (.t 6)),.M 3 7])
def f533:Qg:=⟨2,8,[.tmp 3],f533C,false⟩
@[simp] theorem f533B:f533.body=f533C∧f533.res=[.tmp 3]∧f533.keep=false:=⟨rfl,rfl,rfl⟩
def f534C:AC:= .r [.o 2 (.gbox (.t 0)),.o 3 (.gbox (.t 1)),.f 4 false] (.v [.o 5 (.ldg 2 1 false),.o 6 (.mkfn 535 [.t 3,.t 2]),.c 7 537 [.t 5,.t 6],.M 4 7])
def f534:Qg:=⟨2,8,[.tmp 4],f534C,false⟩
@[simp] theorem f534B:f534.body=f534C∧f534.res=[.tmp 4]∧f534.keep=false:=⟨rfl,rfl,rfl⟩
def f535C:AC:= .r [.b 3 0,.f 4 false] (.seq (.block 0 (.r [.L 8 3 0 4,.o 9 (.mksl 1 [.c (.str [112,97,105,114])]),.c 10 160 [.t 8,.t 9],.M 7 10] (.cond (.t 7) (.seq (.z [.F 11 3 3,.l 12 3 3 1,.o 13 (.idxa 4 (.t 12) (.i 0)),.DT 14 13 4,.o 15 (.ldg 1 4 true),.c 16 536 [.t 14,.t 15],.M 17 16,.g 18 (.fad 3 3) 17 false,.g 19 (.ldf 3 3 1 false) 17 false,.g 20 (.idxa 4 (.t 19) (.i 1)) 17 false,.g 21 (.ld 20 4 true) 17 false,.g 22 (.ldg 1 4 true) 17 false,.g 23 (.call 536 [.t 21,.t 22]) 17 false,.Q 24 17 23,.M 4 24]) (.ret)) (.r [.L 26 3 0 4,.o 27 (.mksl 1 [.c (.str [115,105,103,110])]),.c 28 160 [.t 26,.t 27],.M 25 28] (.cond (.t 25) (.seq (.z [.F 29 3 3,.l 30 3 3 1,.o 31 (.idxa 4 (.t 30) (.i 0)),.DT 32 31 4,.o 33 (.ldg 1 4 true),.c 34 536 [.t 32,.t 33],.M 4 34]) (.ret)) (.r [.L 36 3 0 4,.o 37 (.mksl 1 [.c (.str [101,110,99]),.c (.str [97,101,110,99])]),.c 38 160 [.t 36,.t 37],.M 35 38] (.i 35 (.r [.L 40 3 0 4,.c 41 418 [.t 40],.M 39 41,.E 42 39 0,.E 43 39 1,.T 5,.S 5 0 4 42,.M 6 43] (.seq (.z [.M 44 6,.C 45 .eql 44 0,.M 46 45,.g 47 (.fad 3 3) 46 true,.g 48 (.ldf 3 3 1 false) 46 true,.g 49 (.idxa 4 (.t 48) (.i 0)) 46 true,.g 50 (.ld 49 4 true) 46 true,.g 51 (.ldg 1 4 true) 46 true,.g 52 (.call 536 [.t 50,.t 51]) 46 true,.P 53 46 52,.M 54 53,.g 55 (.ldg 2 1 false) 54 true,.g 56 (.ldf 5 0 4 true) 54 true,.g 57 (.call 530 [.t 55,.t 56]) 54 true,.P 58 54 57,.M 4 58]) (.ret)))))))))) (.v [.f 4 false]))
def f535:Qg:=⟨3,59,[.tmp 4],f535C,false⟩
@[simp] theorem f535B:f535.body=f535C∧f535.res=[.tmp 4]∧f535.keep=false:=⟨rfl,rfl,rfl⟩
def f536C:AC:= .r [.b 2 0,.b 3 1,.f 4 false] (.v [.L 5 2 0 4,.L 6 3 0 4,.c 7 30 [.t 5,.t 6],.C 8 .eql 7 0,.M 4 8])
def f536:Qg:=⟨2,9,[.tmp 4],f536C,false⟩
@[simp] theorem f536B:f536.body=f536C∧f536.res=[.tmp 4]∧f536.keep=false:=⟨rfl,rfl,rfl⟩
def f537C:AC:= .r [.f 4 false] (.v [.M 5 0,.M 6 1,.c 7 538 [.t 5,.t 6],.C 8 .geq 7 0,.M 4 8])
def f537:Qg:=⟨2,9,[.tmp 4],f537C,false⟩
@[simp] theorem f537B:f537.body=f537C∧f537.res=[.tmp 4]∧f537.keep=false:=⟨rfl,rfl,rfl⟩
def f538l0:AC:= .r [.B 9 .lss 8 7] (.seq (.x 9 0) (.seq (.block 1 (.r [.M 10 8,.M 5 10] (.r [.M 11 1,.M 12 0,.M 13 5,.X 14 4 12 13,.DT 15 14 4,.o 16 (.callv (.t 11) [.t 15])] (.i 16 (.v [.M 17 5,.M 4 17]))))) (.q [.C 18 .add 8 1,.M 8 18])))
def f538r0:AC:= .v [.I 4 (-1)]
def f538C:AC:= .r [.I 4 0] (.seq (.r [.M 6 0,.N 7 6,.I 8 0] (.block 0 (.loop (f538l0)))) (f538r0))
def f538:Qg:=⟨2,19,[.tmp 4],f538C,false⟩
@[simp] theorem f538B:f538.body=f538C∧f538.res=[.tmp 4]∧f538.keep=false:=⟨rfl,rfl,rfl⟩
def f539l0:AC:= .r [.B 25 .lss 24 23] (.seq (.x 25 0) (.seq (.block 1 (.r [.X 26 4 22 24,.DT 27 26 4,.T 8,.S 8 0 4 27] (.r [.L 28 8 0 4,.o 29 (.mksl 1 [.c (.str [120,111,114])]),.c 30 160 [.t 28,.t 29]] (.i 30 (.r [.L 32 8 0 4,.c 33 540 [.t 32],.M 31 33,.E 34 31 0,.E 35 31 1,.o 9 (.mvs 34),.M 10 35] (.q [.o 36 (.mvs 5),.M 37 9,.A 38 56 4 36 37,.o 5 (.mvs 38)])))))) (.q [.C 39 .add 24 1,.M 24 39])))
def f539l1:AC:= .r [.B 45 .lss 44 43] (.seq (.x 45 2) (.seq (.block 3 (.r [.X 46 4 42 44,.DT 47 46 4,.T 14,.S 14 0 4 47] (.r [.L 48 14 0 4,.o 49 (.mksl 1 [.c (.str [120,111,114])]),.c 50 160 [.t 48,.t 49],.M 51 50,.g 52 (.m 11) 51 false,.g 53 (.ldf 14 0 4 true) 51 false,.g 54 (.call 530 [.t 52,.t 53]) 51 false,.Q 55 51 54] (.i 55 (.q [.o 56 (.mvs 12),.L 57 14 0 4,.o 58 (.mksl 4 [.t 57]),.A 59 56 4 56 58,.o 12 (.mvs 59)]))))) (.q [.C 60 .add 44 1,.M 44 60])))
def f539r0:AC:= .r [.M 62 12,.L 63 3 0 4,.c 64 541 [.t 62,.t 63],.M 61 64,.E 65 61 0,.E 66 61 1,.o 15 (.mvs 65),.M 16 66] (.v [.M 67 16,.C 68 .eql 67 0,.M 4 68])
def f539r1:AC:= .r [.M 40 5,.c 41 527 [.t 40],.o 11 (.mvs 41)] (.r [.Z 12 4] (.seq (.r [.M 42 0,.N 43 42,.I 44 0] (.block 2 (.loop (f539l1)))) (f539r0)))
def f539C:AC:= .r [.b 3 1,.f 4 false] (.r [.L 18 3 0 4,.c 19 540 [.t 18],.o 17 (.mvs 19),.o 20 (.extm 17),.E 21 17 1,.o 5 (.mvs 20),.M 6 21] (.seq (.r [.M 22 0,.N 23 22,.I 24 0] (.block 0 (.loop (f539l0)))) (f539r1)))
def f539:Qg:=⟨2,69,[.tmp 4],f539C,false⟩
@[simp] theorem f539B:f539.body=f539C∧f539.res=[.tmp 4]∧f539.keep=false:=⟨rfl,rfl,rfl⟩
def f540C:AC:= .r [.b 1 0,.Z 2 4,.I 3 0] (.seq (.r [.L 5 1 0 4,.o 6 (.mksl 4 [.t 5]),.c 7 179 [.c (.sl true 4 []),.t 6],.M 4 7] (.r [.M 8 4,.C 9 .neq 8 0] (.i 9 (.v [.M 10 4,.Z 2 4,.M 3 10])))) (.v [.L 11 1 0 4,.c 12 182 [.t 11],.c 13 184 [.t 12],.o 2 (.mvs 13),.I 3 0]))
def f540:Qg:=⟨1,14,[.own 2,.tmp 3],f540C,false⟩
@[simp] theorem f540B:f540.body=f540C∧f540.res=[.own 2,.tmp 3]∧f540.keep=false:=⟨rfl,rfl,rfl⟩
def f541l0:AC:= .r [.B 41 .lss 40 39] (.seq (.x 41 0) (.seq (.block 1 (.r [.M 42 40,.M 11 42] (.r [.M 43 9,.M 44 11,.c 45 549 [.t 43,.t 44]] (.i 45 (.q [.o 46 (.mvs 10),.M 47 11,.o 48 (.mksl 1 [.t 47]),.A 49 8 1 46 48,.o 10 (.mvs 49)]))))) (.q [.C 50 .add 40 1,.M 40 50])))
def f541r0:AC:= .v [.M 51 10,.o 4 (.mvs 51),.I 5 0]
def f541C:AC:= .r [.b 3 1,.Z 4 1,.I 5 0] (.seq (.r [.M 12 0,.L 13 3 0 4,.o 14 (.mksl 4 [.t 13]),.c 15 179 [.t 12,.t 14],.M 6 15] (.r [.M 16 6,.C 17 .neq 16 0] (.i 17 (.v [.M 18 6,.Z 4 1,.M 5 18])))) (.r [.M 19 0,.L 20 3 0 4,.c 21 542 [.t 19,.t 20],.M 7 21] (.r [.M 23 7,.M 24 7,.L 25 3 0 4,.c 26 544 [.t 24,.t 25],.c 27 548 [.t 23,.t 26],.M 22 27,.E 28 22 0,.E 29 22 1,.M 8 28,.M 9 29] (.seq (.r [.M 30 8,.M 31 7,.o 32 (.nilck (.t 31)),.o 33 (.fadr 32 0),.o 34 (.ldg 33 1 false),.N 35 34,.c 36 551 [.t 30,.t 35],.C 37 .geq 36 0] (.i 37 (.v [.Z 4 1,.I 5 4]))) (.r [.Z 10 1] (.seq (.r [.M 38 0,.N 39 38,.I 40 0] (.block 0 (.loop (f541l0)))) (f541r0)))))))
def f541:Qg:=⟨2,52,[.tmp 4,.tmp 5],f541C,false⟩
@[simp] theorem f541B:f541.body=f541C∧f541.res=[.tmp 4,.tmp 5]∧f541.keep=false:=⟨rfl,rfl,rfl⟩
def f542l0:AC:= .r [.B 26 .lss 25 24] (.seq (.x 26 0) (.seq (.block 1 (.r [.X 27 4 23 25,.o 28 (.ldg 27 4 true),.T 7,.S 7 0 4 28] (.z [.M 29 5,.M 30 5,.o 31 (.nilck (.t 30)),.o 32 (.fadr 31 0),.o 33 (.ldg 32 1 false),.L 34 7 0 4,.o 35 (.callq 182 [.t 34]),.o 36 (.appM 56 4 (.t 33) (.t 35)),.o 37 (.nilck (.t 29)),.o 38 (.fadr 37 0),.n (.st 38 1 (.t 36))]))) (.q [.C 39 .add 25 1,.M 25 39])))
def f542l1:AC:= .r [.B 56 .lss 55 54] (.seq (.x 56 2) (.seq (.block 3 (.r [.M 57 55,.X 58 4 53 55,.DT 59 58 4,.T 9,.M 8 57,.S 9 0 4 59] (.r [.M 61 5,.M 62 5,.L 63 9 0 4,.c 64 544 [.t 62,.t 63],.c 65 548 [.t 61,.t 64],.M 60 65,.E 66 60 0,.E 67 60 1,.M 10 66,.M 11 67] (.r [.M 68 10,.M 69 5,.o 70 (.nilck (.t 69)),.o 71 (.fadr 70 0),.o 72 (.ldg 71 1 false),.N 73 72,.c 74 551 [.t 68,.t 73],.M 12 74] (.r [.M 75 12,.C 76 .geq 75 0] (.i 76 (.r [.M 77 11,.M 78 8,.c 79 547 [.t 77,.t 78]] (.seq (.z [.M 80 5,.o 81 (.nilck (.t 80)),.o 82 (.fadr 81 2),.o 83 (.ldg 82 1 false),.M 84 12,.M 85 5,.o 86 (.nilck (.t 85)),.o 87 (.fadr 86 3),.o 88 (.ldg 87 1 false),.M 89 12,.M 90 10,.M 91 11,.o 92 (.mpe false (.t 83) (.t 84) (.sl true 1 [])),.E 93 92 1,.n (.ensf (.t 83) (.t 93) 90 1),.o 94 (.mpe false (.t 88) (.t 89) (.sl true 1 [])),.E 95 94 1,.n (.ensf (.t 88) (.t 95) 91 1)]) (.q [.M 96 5,.M 97 5,.o 98 (.nilck (.t 97)),.o 99 (.fadr 98 4),.o 100 (.ldg 99 1 false),.M 101 8,.o 102 (.mksl 1 [.t 101]),.o 103 (.appM 8 1 (.t 100) (.t 102)),.o 104 (.nilck (.t 96)),.o 105 (.fadr 104 4),.n (.st 105 1 (.t 103))]))))))))) (.q [.C 106 .add 55 1,.M 55 106])))
def f542r0:AC:= .v [.M 107 5,.M 4 107]
def f542r1:AC:= .r [.M 40 5,.o 41 (.nilck (.t 40)),.o 42 (.fadr 41 0),.o 43 (.ldg 42 1 false),.c 44 170 [.t 43,.c (.fn 30 [])]] (.r [.M 45 5,.M 46 5,.o 47 (.nilck (.t 46)),.o 48 (.fadr 47 0),.o 49 (.ldg 48 1 false),.c 50 172 [.t 49,.c (.fn 543 [])],.o 51 (.nilck (.t 45)),.o 52 (.fadr 51 0),.n (.st 52 1 (.t 50))] (.seq (.r [.M 53 0,.N 54 53,.I 55 0] (.block 2 (.loop (f542l1)))) (f542r0)))
def f542C:AC:= .r [.b 3 1,.o 4 (.nilp)] (.r [.M 13 0,.N 14 13,.o 15 (.mkm),.o 16 (.mkm),.o 17 (.mkst [.gs 0 0 0 0,.int .i64 0,.undef,.undef,.gs 0 0 0 0] [(1,1,.t 14),(2,1,.t 15),(3,1,.t 16)]),.o 18 (.gbox (.t 17)),.M 5 18] (.seq (.seq (.z [.M 19 0,.c 20 193 [.t 19],.L 21 3 0 4,.o 22 (.mksl 4 [.t 21]),.o 23 (.appM 56 4 (.t 20) (.t 22)),.N 24 23,.I 25 0]) (.block 0 (.loop (f542l0)))) (f542r1)))
def f542:Qg:=⟨2,108,[.tmp 4],f542C,true⟩
@[simp] theorem f542B:f542.body=f542C∧f542.res=[.tmp 4]∧f542.keep=true:=⟨rfl,rfl,rfl⟩
def f543C:AC:= .r [.b 2 0,.b 3 1,.f 4 false] (.v [.L 5 2 0 4,.L 6 3 0 4,.c 7 30 [.t 5,.t 6],.C 8 .eql 7 0,.M 4 8])
def f543:Qg:=⟨2,9,[.tmp 4],f543C,false⟩
@[simp] theorem f543B:f543.body=f543C∧f543.res=[.tmp 4]∧f543.keep=false:=⟨rfl,rfl,rfl⟩
def f544l0:AC:= .r [.B 20 .lss 19 18] (.seq (.x 20 0) (.seq (.block 1 (.r [.X 21 4 17 19,.DT 22 21 4,.T 7,.S 7 0 4 22] (.q [.M 23 5,.M 24 0,.L 25 7 0 4,.c 26 545 [.t 24,.t 25],.c 27 547 [.t 23,.t 26]]))) (.q [.C 28 .add 19 1,.M 19 28])))
def f544r0:AC:= .v [.M 29 5,.M 4 29]
def f544C:AC:= .r [.b 3 1,.Z 4 1] (.r [.M 8 0,.o 9 (.nilck (.t 8)),.o 10 (.fadr 9 0),.o 11 (.ldg 10 1 false),.N 12 11,.C 13 .quo 12 64,.C 14 .add 13 1,.o 15 (.mkg 8 1 [.int .u64 0] (.t 14)),.M 5 15] (.seq (.r [.L 16 3 0 4,.c 17 182 [.t 16],.N 18 17,.I 19 0] (.block 0 (.loop (f544l0)))) (f544r0)))
def f544:Qg:=⟨2,30,[.tmp 4],f544C,true⟩
@[simp] theorem f544B:f544.body=f544C∧f544.res=[.tmp 4]∧f544.keep=true:=⟨rfl,rfl,rfl⟩
def f545C:AC:= .r [.b 3 1,.I 4 0] (.seq (.z [.M 8 0,.o 9 (.nilck (.t 8)),.o 10 (.fadr 9 0),.o 11 (.ldg 10 1 false),.L 12 3 0 4,.c 13 546 [.t 11,.t 12,.c (.fn 30 [])],.M 7 13,.E 14 7 0,.E 15 7 1,.M 5 14,.M 6 15]) (.v [.M 16 5,.M 4 16]))
def f545:Qg:=⟨2,17,[.tmp 4],f545C,false⟩
@[simp] theorem f545B:f545.body=f545C∧f545.res=[.tmp 4]∧f545.keep=false:=⟨rfl,rfl,rfl⟩
def f546l0:AC:= .seq (.r [.M 15 9,.M 16 10,.B 17 .lss 15 16] (.x 17 0)) (.block 1 (.r [.M 18 9,.M 19 10,.B 20 .add 18 19,.o 21 (.conv .u64 (.t 20)),.o 22 (.bin .shr (.t 21) (.c (.int .u64 1))),.o 23 (.conv .i64 (.t 22)),.M 11 23] (.seq (.z [.M 24 2,.M 25 0,.M 26 11,.X 27 4 25 26,.o 28 (.ldg 27 4 true),.L 29 4 0 4,.o 30 (.callv (.t 24) [.t 28,.t 29]),.C 31 .lss 30 0]) (.cond (.t 31) (.q [.M 32 11,.C 33 .add 32 1,.M 9 33]) (.q [.M 34 11,.M 10 34])))))
def f546r0:AC:= .seq (.z [.M 35 9,.M 36 9,.M 37 8,.B 38 .lss 36 37,.M 39 38,.g 40 (.m 2) 39 true,.g 41 (.m 0) 39 true,.g 42 (.m 9) 39 true,.g 43 (.idxa 4 (.t 41) (.t 42)) 39 true,.g 44 (.ldg 43 4 true) 39 true,.g 45 (.ldf 4 0 4 true) 39 true,.g 46 (.callv (.t 40) [.t 44,.t 45]) 39 true,.g 47 (.bin .eql (.t 46) (.i 0)) 39 true,.P 48 39 47,.M 6 35,.M 7 48]) (.ret)
def f546C:AC:= .r [.b 4 1,.I 6 0,.f 7 false] (.r [.M 12 0,.N 13 12,.M 8 13] (.r [.M 14 8,.I 9 0,.M 10 14] (.seq (.block 0 (.loop (f546l0))) (f546r0))))
def f546:Qg:=⟨3,49,[.tmp 6,.tmp 7],f546C,false⟩
@[simp] theorem f546B:f546.body=f546C∧f546.res=[.tmp 6,.tmp 7]∧f546.keep=false:=⟨rfl,rfl,rfl⟩
def f547C:AC:= .z [.M 4 0,.M 5 1,.C 6 .quo 5 64,.X 7 1 4 6,.o 8 (.ldg 7 1 false),.M 9 1,.C 10 .rem 9 64,.o 11 (.bin .shl (.c (.int .u64 1)) (.t 10)),.B 12 .xor 8 11,.X 13 1 4 6,.n (.st 13 1 (.t 12))]
def f547:Qg:=⟨2,14,[],f547C,false⟩
@[simp] theorem f547B:f547.body=f547C∧f547.res=[]∧f547.keep=false:=⟨rfl,rfl,rfl⟩
def f548l0:AC:= .r [.B 23 .lss 22 21] (.seq (.x 23 0) (.seq (.block 1 (.r [.M 24 22,.M 7 24] (.r [.M 26 0,.o 27 (.nilck (.t 26)),.o 28 (.fadr 27 2),.o 29 (.ldg 28 1 false),.M 30 7,.o 31 (.lkm false true (.t 29) (.t 30) (.sl true 1 [])),.M 25 31,.E 32 25 0,.E 33 25 1,.o 8 (.mvs 32),.M 9 33] (.r [.M 34 9,.M 35 34,.g 36 (.m 1) 35 true,.g 37 (.m 7) 35 true,.g 38 (.call 549 [.t 36,.t 37]) 35 true,.P 39 35 38] (.i 39 (.r [.M 40 1,.M 41 8,.c 42 550 [.t 40,.t 41]] (.q [.M 43 6,.M 44 0,.o 45 (.nilck (.t 44)),.o 46 (.fadr 45 3),.o 47 (.ldg 46 1 false),.M 48 7,.o 49 (.lkm false false (.t 47) (.t 48) (.sl true 1 [])),.c 50 550 [.t 43,.t 49]]))))))) (.q [.C 51 .add 22 1,.M 22 51])))
def f548r0:AC:= .v [.M 52 1,.M 53 6,.M 4 52,.M 5 53]
def f548C:AC:= .r [.Z 4 1,.Z 5 1] (.r [.M 10 0,.o 11 (.nilck (.t 10)),.o 12 (.fadr 11 1),.o 13 (.ldg 12 1 false),.C 14 .quo 13 64,.C 15 .add 14 1,.o 16 (.mkg 8 1 [.int .u64 0] (.t 15)),.M 6 16] (.seq (.r [.M 17 0,.o 18 (.nilck (.t 17)),.o 19 (.fadr 18 0),.o 20 (.ldg 19 1 false),.N 21 20,.I 22 0] (.block 0 (.loop (f548l0)))) (f548r0)))
def f548:Qg:=⟨2,54,[.tmp 4,.tmp 5],f548C,true⟩
@[simp] theorem f548B:f548.body=f548C∧f548.res=[.tmp 4,.tmp 5]∧f548.keep=true:=⟨rfl,rfl,rfl⟩
def f549C:AC:= .r [.f 4 false] (.v [.M 5 0,.M 6 1,.C 7 .quo 6 64,.X 8 1 5 7,.o 9 (.ldg 8 1 false),.M 10 1,.C 11 .rem 10 64,.B 12 .shr 9 11,.o 13 (.bin .and (.t 12) (.c (.int .u64 1))),.o 14 (.bin .eql (.t 13) (.c (.int .u64 1))),.M 4 14])
def f549:Qg:=⟨2,15,[.tmp 4],f549C,false⟩
@[simp] theorem f549B:f549.body=f549C∧f549.res=[.tmp 4]∧f549.keep=false:=⟨rfl,rfl,rfl⟩
def f550l0:AC:= .r [.B 8 .lss 7 6] (.seq (.x 8 0) (.seq (.block 1 (.r [.M 9 7,.M 4 9] (.z [.M 10 0,.M 11 4,.X 12 1 10 11,.o 13 (.ldg 12 1 false),.M 14 1,.M 15 4,.X 16 1 14 15,.DF 17 16 1,.B 18 .xor 13 17,.X 19 1 10 11,.n (.st 19 1 (.t 18))]))) (.q [.C 20 .add 7 1,.M 7 20])))
def f550C:AC:= .r [.M 5 0,.N 6 5,.I 7 0] (.block 0 (.loop (f550l0)))
def f550:Qg:=⟨2,21,[],f550C,false⟩
@[simp] theorem f550B:f550.body=f550C∧f550.res=[]∧f550.keep=false:=⟨rfl,rfl,rfl⟩
def f551l0:AC:= .r [.B 8 .lss 7 6] (.seq (.x 8 0) (.seq (.block 1 (.r [.M 9 7,.M 5 9] (.r [.M 10 0,.M 11 5,.c 12 549 [.t 10,.t 11]] (.i 12 (.v [.M 13 5,.M 4 13]))))) (.q [.C 14 .add 7 1,.M 7 14])))
def f551r0:AC:= .v [.I 4 (-1)]
def f551C:AC:= .r [.I 4 0] (.seq (.r [.M 6 1,.I 7 0] (.block 0 (.loop (f551l0)))) (f551r0))
def f551:Qg:=⟨2,15,[.tmp 4],f551C,false⟩
@[simp] theorem f551B:f551.body=f551C∧f551.res=[.tmp 4]∧f551.keep=false:=⟨rfl,rfl,rfl⟩
def f552C:AC:= .r [.o 2 (.gbox (.t 0)),.b 3 1,.f 4 false] (.r [.L 8 3 0 4,.c 9 553 [.t 8],.M 7 9,.E 10 7 0,.E 11 7 1,.o 5 (.galloc zT),.o 6 (.galloc [.sl true 5 []]),.n (.st 5 4 (.t 10)),.n (.stm 6 11)] (.v [.o 12 (.ldg 2 1 false),.o 13 (.mkfn 554 [.t 5,.t 6,.t 2]),.c 14 537 [.t 12,.t 13],.M 4 14]))
def f552:Qg:=⟨2,15,[.tmp 4],f552C,false⟩
@[simp] theorem f552B:f552.body=f552C∧f552.res=[.tmp 4]∧f552.keep=false:=⟨rfl,rfl,rfl⟩
def f553C:AC:= .r [.b 1 0,.T 2,.Z 3 5] (.seq (.r [.L 6 1 0 4,.o 7 (.mksl 1 [.c (.str [101,120,112])]),.c 8 160 [.t 6,.t 7],.o 9 (.un .not (.t 8))] (.i 9 (.v [.L 10 1 0 4,.S 2 0 4 10,.Z 3 5]))) (.r [.F 12 1 3,.l 13 1 3 1,.o 14 (.idxa 4 (.t 13) (.i 1)),.DT 15 14 4,.c 16 186 [.t 15],.M 11 16,.E 17 11 0,.E 18 11 1,.o 4 (.mvs 17),.M 5 18] (.v [.F 19 1 3,.l 20 1 3 1,.o 21 (.idxa 4 (.t 20) (.i 0)),.DT 22 21 4,.M 23 4,.S 2 0 4 22,.o 3 (.mvs 23)])))
def f553:Qg:=⟨1,24,[.cell 2 4 true,.tmp 3],f553C,false⟩
@[simp] theorem f553B:f553.body=f553C∧f553.res=[.cell 2 4 true,.tmp 3]∧f553.keep=false:=⟨rfl,rfl,rfl⟩
def f554C:AC:= .r [.b 4 0,.f 5 false] (.r [.L 11 4 0 4,.c 12 553 [.t 11],.M 10 12,.E 13 10 0,.E 14 10 1,.T 6,.S 6 0 4 13,.o 7 (.mvs 14)] (.seq (.r [.o 15 (.ldg 1 4 true),.L 16 6 0 4,.c 17 536 [.t 15,.t 16],.o 18 (.un .not (.t 17))] (.i 18 (.v [.f 5 false]))) (.seq (.z [.o 20 (.ldg 2 1 false),.M 21 7,.o 22 (.callq 363 [.t 21]),.c 23 200 [.t 20,.t 22],.M 19 23,.E 24 19 0,.E 25 19 1,.o 8 (.mvs 24),.M 9 25]) (.v [.M 26 9,.C 27 .eql 26 0,.M 28 27,.g 29 (.ldg 3 1 false) 28 true,.g 30 (.m 8) 28 true,.g 31 (.call 555 [.t 29,.t 30]) 28 true,.P 32 28 31,.M 5 32]))))
def f554:Qg:=⟨4,33,[.tmp 5],f554C,false⟩
@[simp] theorem f554B:f554.body=f554C∧f554.res=[.tmp 5]∧f554.keep=false:=⟨rfl,rfl,rfl⟩
def f555l0:AC:= .r [.B 21 .lss 20 19] (.seq (.x 21 0) (.seq (.block 1 (.r [.X 22 4 18 20,.DT 23 22 4,.T 7,.S 7 0 4 23] (.r [.L 24 7 0 4,.c 25 522 [.t 24]] (.i 25 (.r [.L 27 7 0 4,.c 28 186 [.t 27],.M 26 28,.E 29 26 0,.E 30 26 1,.o 8 (.mvs 29),.M 9 30] (.q [.o 31 (.mvs 5),.M 32 0,.M 33 8,.c 34 556 [.t 32,.t 33],.o 35 (.mksl 1 [.t 34]),.A 36 24 1 31 35,.o 5 (.mvs 36)])))))) (.q [.C 37 .add 20 1,.M 20 37])))
def f555r0:AC:= .r [.M 39 5,.M 40 1,.c 41 560 [.t 39,.t 40],.M 38 41,.E 42 38 0,.E 43 38 1,.o 10 (.mvs 42),.M 11 43] (.v [.M 44 11,.C 45 .eql 44 0,.M 4 45])
def f555C:AC:= .r [.f 4 false] (.seq (.r [.M 12 0,.M 13 1,.c 14 556 [.t 12,.t 13],.o 1 (.mvs 14)] (.r [.M 15 1,.N 16 15,.C 17 .eql 16 0] (.i 17 (.v [.f 4 true])))) (.r [.Z 5 1] (.seq (.r [.M 18 0,.N 19 18,.I 20 0] (.block 0 (.loop (f555l0)))) (f555r0))))
def f555:Qg:=⟨2,46,[.tmp 4],f555C,false⟩
@[simp] theorem f555B:f555.body=f555C∧f555.res=[.tmp 4]∧f555.keep=false:=⟨rfl,rfl,rfl⟩
def f556C:AC:= .r [.o 2 (.gbox (.t 0)),.Z 4 5] (.v [.M 5 1,.c 6 557 [.t 5],.o 7 (.mkfn 558 [.t 2]),.c 8 559 [.t 6,.t 7],.o 4 (.mvs 8)])
def f556:Qg:=⟨2,9,[.tmp 4],f556C,false⟩
@[simp] theorem f556B:f556.body=f556C∧f556.res=[.tmp 4]∧f556.keep=false:=⟨rfl,rfl,rfl⟩
def f558C:AC:= .r [.b 2 0,.f 3 false] (.v [.o 4 (.ldg 1 1 false),.F 5 2 0,.L 6 2 0 4,.c 7 530 [.t 4,.t 6],.M 3 7])
def f558:Qg:=⟨2,8,[.tmp 3],f558C,false⟩
@[simp] theorem f558B:f558.body=f558C∧f558.res=[.tmp 3]∧f558.keep=false:=⟨rfl,rfl,rfl⟩
def f559l0:AC:= .seq (.r [.M 16 6,.M 17 0,.N 18 17,.B 19 .lss 16 18] (.x 19 0)) (.seq (.block 1 (.r [.M 22 0,.M 23 6,.X 24 5 22 23,.o 25 (.ldg 24 5 true),.o 7 (.alloc [.int .i64 0,.str [],.int .i64 0,.sl true 4 [],.int .i64 0]),.S 7 0 5 25] (.r [.M 26 1,.L 27 7 0 5,.o 28 (.callv (.t 26) [.t 27]),.o 29 (.un .not (.t 28))] (.i 29 (.r [.M 30 0,.M 31 5,.L 32 7 0 5,.X 33 5 30 31,.n (.st 33 5 (.t 32))] (.q [.M 34 5,.C 35 .add 34 1,.M 5 35])))))) (.q [.M 20 6,.C 21 .add 20 1,.M 6 21]))
def f559r0:AC:= .r [.M 36 0,.M 37 5,.o 38 (.slcl 5 (.t 36) (some (.t 37)) none),.n (.clr 5 (.t 38))] (.v [.M 39 0,.M 40 5,.o 41 (.slcl 5 (.t 39) none (some (.t 40))),.o 4 (.frz 41 5)])
def f559C:AC:= .r [.Z 4 5] (.r [.M 8 0,.M 9 1,.c 10 205 [.t 8,.t 9],.M 5 10] (.seq (.r [.M 11 5,.C 12 .eql 11 (-1)] (.i 12 (.v [.M 13 0,.o 4 (.frz 13 5)]))) (.seq (.r [.M 14 5,.C 15 .add 14 1,.M 6 15] (.block 0 (.loop (f559l0)))) (f559r0))))
def f559:Qg:=⟨2,42,[.tmp 4],f559C,false⟩
@[simp] theorem f559B:f559.body=f559C∧f559.res=[.tmp 4]∧f559.keep=false:=⟨rfl,rfl,rfl⟩
def f560l0:AC:= .r [.B 32 .lss 31 30] (.seq (.x 32 0) (.seq (.block 1 (.r [.X 33 1 29 31,.o 34 (.ldg 33 1 false),.M 12 34] (.q [.o 35 (.mvs 10),.M 36 12,.o 37 (.un .neg (.t 36)),.o 38 (.mksl 1 [.t 37]),.A 39 8 1 35 38,.o 10 (.mvs 39)]))) (.q [.C 40 .add 31 1,.M 31 40])))
def f560r0:AC:= .v [.M 41 10,.o 4 (.mvs 41),.I 5 0]
def f560C:AC:= .r [.Z 4 1,.I 5 0] (.r [.M 14 0,.M 15 1,.c 16 561 [.t 14,.t 15],.M 13 16,.E 17 13 0,.E 18 13 1,.E 19 13 2,.E 20 13 3,.M 6 17,.M 7 18,.M 8 19,.M 9 20] (.seq (.r [.M 21 9,.C 22 .neq 21 0] (.i 22 (.v [.M 23 9,.Z 4 1,.M 5 23]))) (.seq (.r [.M 24 8,.C 25 .geq 24 0] (.i 25 (.v [.Z 4 1,.I 5 4]))) (.r [.Z 10 1] (.seq (.r [.M 26 7,.o 27 (.nilck (.t 26)),.o 28 (.fadr 27 1),.o 29 (.ldg 28 1 false),.N 30 29,.I 31 0] (.block 0 (.loop (f560l0)))) (f560r0))))))
def f560:Qg:=⟨2,42,[.tmp 4,.tmp 5],f560C,false⟩
@[simp] theorem f560B:f560.body=f560C∧f560.res=[.tmp 4,.tmp 5]∧f560.keep=false:=⟨rfl,rfl,rfl⟩
def f561C:AC:= .r [.o 4 (.nilp),.o 5 (.nilp),.I 6 0,.I 7 0] (.r [.M 13 0,.M 14 1,.c 15 562 [.t 13,.t 14],.M 12 15,.E 16 12 0,.E 17 12 1,.E 18 12 2,.M 8 16,.M 9 17,.M 10 18] (.seq (.r [.M 19 10,.C 20 .neq 19 0] (.i 20 (.v [.M 21 10,.o 4 (.nilp),.o 5 (.nilp),.I 6 0,.M 7 21]))) (.r [.I 11 (-1)] (.seq (.r [.M 22 8,.o 23 (.nilck (.t 22)),.o 24 (.fadr 23 3),.o 25 (.ldg 24 1 false),.o 26 (.un .not (.t 25))] (.i 26 (.q [.M 27 8,.M 28 9,.c 29 567 [.t 27,.t 28],.M 11 29]))) (.seq (.r [.M 30 8,.o 31 (.nilck (.t 30)),.o 32 (.fadr 31 3),.o 33 (.ldg 32 1 false)] (.i 33 (.v [.o 4 (.nilp),.o 5 (.nilp),.I 6 0,.I 7 3]))) (.v [.M 34 8,.M 35 9,.M 36 11,.M 4 34,.M 5 35,.M 6 36,.I 7 0]))))))
def f561:Qg:=⟨2,37,[.tmp 4,.tmp 5,.tmp 6,.tmp 7],f561C,true⟩
@[simp] theorem f561B:f561.body=f561C∧f561.res=[.tmp 4,.tmp 5,.tmp 6,.tmp 7]∧f561.keep=true:=⟨rfl,rfl,rfl⟩
def f562l0:AC:= .r [.B 22 .lss 21 20] (.seq (.x 22 0) (.seq (.block 1 (.r [.X 23 1 19 21,.DF 24 23 1,.o 8 (.mvs 24)] (.r [.M 25 8,.c 26 197 [.t 25],.M 9 26] (.r [.M 27 9,.C 28 .neq 27 0] (.i 28 (.v [.M 29 9,.o 4 (.nilp),.o 5 (.nilp),.M 6 29])))))) (.q [.C 30 .add 21 1,.M 21 30])))
def f562l1:AC:= .r [.B 53 .lss 52 51] (.seq (.x 53 2) (.seq (.block 3 (.r [.M 54 52,.X 55 1 50 52,.DF 56 55 1,.M 12 54,.o 13 (.mvs 56)] (.seq (.z [.M 57 11,.o 58 (.nilck (.t 57)),.o 59 (.fadr 58 0),.o 60 (.ldg 59 1 false),.M 61 13,.c 62 563 [.t 60,.t 61],.M 63 0,.N 64 63,.o 65 (.mkp 8 1 [.int .i64 0] (.t 64)),.o 66 (.mkstP 65 [.sl true 1 [],.sl true 1 [],.bool false] [(0,1,.t 62),(1,1,.t 65)]),.o 67 (.gbox (.t 66)),.M 14 67]) (.r [.M 68 14,.o 69 (.nilck (.t 68)),.o 70 (.fadr 69 1),.o 71 (.ldg 70 1 false),.M 72 12,.X 73 1 71 72,.n (.st 73 1 (.i 1))] (.q [.M 74 11,.M 75 11,.o 76 (.nilck (.t 75)),.o 77 (.fadr 76 1),.o 78 (.ldg 77 1 false),.M 79 14,.o 80 (.mksl 1 [.t 79]),.o 81 (.appM 8 1 (.t 78) (.t 80)),.o 82 (.nilck (.t 74)),.o 83 (.fadr 82 1),.n (.st 83 1 (.t 81))]))))) (.q [.C 84 .add 52 1,.M 52 84])))
def f562l2:AC:= .r [.B 91 .lss 90 89] (.seq (.x 91 4) (.seq (.block 5 (.q [.M 92 11,.M 93 11,.o 94 (.nilck (.t 93)),.o 95 (.fadr 94 2),.o 96 (.ldg 95 1 false),.o 97 (.mksl 1 [.i (-1)]),.o 98 (.appM 8 1 (.t 96) (.t 97)),.o 99 (.nilck (.t 92)),.o 100 (.fadr 99 2),.n (.st 100 1 (.t 98))])) (.q [.C 101 .add 90 1,.M 90 101])))
def f562l3:AC:= .r [.B 108 .lss 107 106] (.seq (.x 108 6) (.seq (.block 7 (.r [.M 109 107,.M 15 109] (.q [.M 110 11,.M 111 15,.c 112 564 [.t 110,.t 111]]))) (.q [.C 113 .add 107 1,.M 107 113])))
def f562r0:AC:= .seq (.z [.M 114 11,.M 115 11,.o 116 (.nilck (.t 115)),.o 117 (.fadr 116 0),.o 118 (.ldg 117 1 false),.M 119 1,.c 120 563 [.t 118,.t 119],.M 121 0,.N 122 121,.o 123 (.mkp 8 1 [.int .i64 0] (.t 122)),.o 124 (.mkstP 123 [.sl true 1 [],.sl true 1 [],.bool false] [(0,1,.t 120),(1,1,.t 123)]),.o 125 (.gbox (.t 124)),.M 4 114,.M 5 125,.I 6 0]) (.ret)
def f562r1:AC:= .seq (.r [.M 102 11,.o 103 (.nilck (.t 102)),.o 104 (.fadr 103 0),.o 105 (.ldg 104 1 false),.N 106 105,.I 107 0] (.block 6 (.loop (f562l3)))) (f562r0)
def f562r2:AC:= .seq (.r [.M 85 11,.o 86 (.nilck (.t 85)),.o 87 (.fadr 86 0),.o 88 (.ldg 87 1 false),.N 89 88,.I 90 0] (.block 4 (.loop (f562l2)))) (f562r1)
def f562r3:AC:= .seq (.r [.M 31 1,.c 32 197 [.t 31],.M 10 32] (.r [.M 33 10,.C 34 .neq 33 0] (.i 34 (.v [.M 35 10,.o 4 (.nilp),.o 5 (.nilp),.M 6 35])))) (.r [.M 36 0,.c 37 372 [.t 36],.M 38 1,.o 39 (.mksl 1 [.t 38]),.A 40 24 1 37 39,.c 41 373 [.t 40],.o 42 (.mkst [.sl true 4 [],.gs 0 0 0 0,.gs 0 0 0 0,.bool false] [(0,1,.t 41)]),.o 43 (.gbox (.t 42)),.M 11 43] (.seq (.r [.M 44 11,.o 45 (.nilck (.t 44)),.o 46 (.fadr 45 0),.o 47 (.ldg 46 1 false),.N 48 47,.C 49 .gtr 48 12] (.i 49 (.v [.o 4 (.nilp),.o 5 (.nilp),.I 6 3]))) (.seq (.r [.M 50 0,.N 51 50,.I 52 0] (.block 2 (.loop (f562l1)))) (f562r2))))
def f562C:AC:= .r [.o 4 (.nilp),.o 5 (.nilp),.I 6 0] (.seq (.r [.M 16 0,.N 17 16,.C 18 .gtr 17 12] (.i 18 (.v [.o 4 (.nilp),.o 5 (.nilp),.I 6 3]))) (.seq (.r [.M 19 0,.N 20 19,.I 21 0] (.block 0 (.loop (f562l0)))) (f562r3)))
def f562:Qg:=⟨2,126,[.tmp 4,.tmp 5,.tmp 6],f562C,true⟩
@[simp] theorem f562B:f562.body=f562C∧f562.res=[.tmp 4,.tmp 5,.tmp 6]∧f562.keep=true:=⟨rfl,rfl,rfl⟩
def f563l0:AC:= .r [.B 16 .lss 15 14] (.seq (.x 16 0) (.seq (.block 1 (.r [.X 17 5 13 15,.DT 18 17 5,.o 7 (.alloc [.int .i64 0,.str [],.int .i64 0,.sl true 4 [],.int .i64 0]),.S 7 0 5 18] (.r [.M 20 0,.F 21 7 0,.L 22 7 0 4,.c 23 378 [.t 20,.t 22,.c (.fn 30 [])],.M 19 23,.E 24 19 0,.E 25 19 1,.M 8 24,.M 9 25] (.q [.M 26 5,.M 27 8,.F 28 7 4,.l 29 7 4 1,.X 30 1 26 27,.n (.st 30 1 (.t 29))])))) (.q [.C 31 .add 15 1,.M 15 31])))
def f563r0:AC:= .v [.M 32 5,.M 4 32]
def f563C:AC:= .r [.Z 4 1] (.r [.M 10 0,.N 11 10,.o 12 (.mkg 8 1 [.int .i64 0] (.t 11)),.M 5 12] (.seq (.r [.M 13 1,.N 14 13,.I 15 0] (.block 0 (.loop (f563l0)))) (f563r0)))
def f563:Qg:=⟨2,33,[.tmp 4],f563C,true⟩
@[simp] theorem f563B:f563.body=f563C∧f563.res=[.tmp 4]∧f563.keep=true:=⟨rfl,rfl,rfl⟩
def f564l0:AC:= .r [.B 21 .lss 20 19] (.seq (.x 21 2) (.seq (.block 3 (.r [.M 22 20,.X 23 1 18 20,.o 24 (.ldg 23 1 false),.M 6 22,.M 7 24] (.seq (.r [.M 25 7,.o 26 (.nilck (.t 25)),.o 27 (.fadr 26 2),.o 28 (.ldg 27 1 false),.M 29 28,.g 30 (.m 7) 29 false,.g 31 (.nilck (.t 30)) 29 false,.g 32 (.fadr 31 0) 29 false,.g 33 (.ldg 32 1 false) 29 false,.g 34 (.m 1) 29 false,.g 35 (.idxa 1 (.t 33) (.t 34)) 29 false,.g 36 (.ldg 35 1 false) 29 false,.g 37 (.bin .eql (.t 36) (.i 0)) 29 false,.Q 38 29 37] (.i 38 (.exit 3))) (.r [.M 39 5,.C 40 .add 39 1,.M 5 40] (.seq (.z [.M 41 4,.C 42 .lss 41 0,.M 43 42,.g 44 (.m 7) 43 false,.g 45 (.nilck (.t 44)) 43 false,.g 46 (.fadr 45 0) 43 false,.g 47 (.ldg 46 1 false) 43 false,.g 48 (.m 1) 43 false,.g 49 (.idxa 1 (.t 47) (.t 48)) 43 false,.g 50 (.ldg 49 1 false) 43 false,.g 51 (.callq 565 [.t 50]) 43 false,.g 52 (.m 0) 43 false,.g 53 (.nilck (.t 52)) 43 false,.g 54 (.fadr 53 1) 43 false,.g 55 (.ldg 54 1 false) 43 false,.g 56 (.m 4) 43 false,.g 57 (.idxa 1 (.t 55) (.t 56)) 43 false,.g 58 (.ldg 57 1 false) 43 false,.g 59 (.nilck (.t 58)) 43 false,.g 60 (.fadr 59 0) 43 false,.g 61 (.ldg 60 1 false) 43 false,.g 62 (.m 1) 43 false,.g 63 (.idxa 1 (.t 61) (.t 62)) 43 false,.g 64 (.ldg 63 1 false) 43 false,.g 65 (.call 565 [.t 64]) 43 false,.g 66 (.bin .lss (.t 51) (.t 65)) 43 false,.Q 67 43 66]) (.i 67 (.q [.M 68 6,.M 4 68]))))))) (.q [.C 69 .add 20 1,.M 20 69])))
def f564l1:AC:= .r [.B 96 .lss 95 94] (.seq (.x 96 4) (.seq (.block 5 (.r [.M 97 95,.X 98 1 93 95,.o 99 (.ldg 98 1 false),.M 8 97,.M 9 99] (.r [.M 100 8,.M 101 4,.B 102 .neq 100 101,.M 103 102,.g 104 (.m 9) 103 true,.g 105 (.nilck (.t 104)) 103 true,.g 106 (.fadr 105 2) 103 true,.g 107 (.ldg 106 1 false) 103 true,.g 108 (.un .not (.t 107)) 103 true,.P 109 103 108,.M 110 109,.g 111 (.m 9) 110 true,.g 112 (.nilck (.t 111)) 110 true,.g 113 (.fadr 112 0) 110 true,.g 114 (.ldg 113 1 false) 110 true,.g 115 (.m 1) 110 true,.g 116 (.idxa 1 (.t 114) (.t 115)) 110 true,.g 117 (.ldg 116 1 false) 110 true,.g 118 (.bin .neq (.t 117) (.i 0)) 110 true,.P 119 110 118,.M 120 119,.g 121 (.m 0) 120 true,.g 122 (.nilck (.t 121)) 120 true,.g 123 (.fadr 122 3) 120 true,.g 124 (.ldg 123 1 false) 120 true,.g 125 (.un .not (.t 124)) 120 true,.P 126 120 125] (.i 126 (.z [.M 127 0,.M 128 9,.M 129 0,.o 130 (.nilck (.t 129)),.o 131 (.fadr 130 1),.o 132 (.ldg 131 1 false),.M 133 4,.X 134 1 132 133,.o 135 (.ldg 134 1 false),.M 136 9,.o 137 (.nilck (.t 136)),.o 138 (.fadr 137 0),.o 139 (.ldg 138 1 false),.M 140 1,.X 141 1 139 140,.o 142 (.ldg 141 1 false),.M 143 0,.o 144 (.nilck (.t 143)),.o 145 (.fadr 144 1),.o 146 (.ldg 145 1 false),.M 147 4,.X 148 1 146 147,.o 149 (.ldg 148 1 false),.o 150 (.nilck (.t 149)),.o 151 (.fadr 150 0),.o 152 (.ldg 151 1 false),.M 153 1,.X 154 1 152 153,.o 155 (.ldg 154 1 false),.B 156 .quo 142 155,.c 157 566 [.t 127,.t 128,.t 135,.t 156]]))))) (.q [.C 158 .add 95 1,.M 95 158])))
def f564r0:AC:= .seq (.r [.M 70 5,.C 71 .eql 70 0] (.i 71 (.ret))) (.seq (.r [.M 72 5,.C 73 .eql 72 1] (.i 73 (.r [.M 74 0,.o 75 (.nilck (.t 74)),.o 76 (.fadr 75 2),.o 77 (.ldg 76 1 false),.M 78 1,.M 79 4,.X 80 1 77 78,.n (.st 80 1 (.t 79))] (.v [.M 81 0,.o 82 (.nilck (.t 81)),.o 83 (.fadr 82 1),.o 84 (.ldg 83 1 false),.M 85 4,.X 86 1 84 85,.o 87 (.ldg 86 1 false),.o 88 (.nilck (.t 87)),.o 89 (.fadr 88 2),.n (.st 89 1 (.c (.bool true)))])))) (.r [.M 90 0,.o 91 (.nilck (.t 90)),.o 92 (.fadr 91 1),.o 93 (.ldg 92 1 false),.N 94 93,.I 95 0] (.block 4 (.loop (f564l1)))))
def f564l2:AC:= .seq (.r [.M 10 0,.o 11 (.nilck (.t 10)),.o 12 (.fadr 11 3),.o 13 (.ldg 12 1 false),.o 14 (.un .not (.t 13))] (.x 14 0)) (.block 1 (.r [.I 4 (-1),.I 5 0] (.seq (.r [.M 15 0,.o 16 (.nilck (.t 15)),.o 17 (.fadr 16 1),.o 18 (.ldg 17 1 false),.N 19 18,.I 20 0] (.block 2 (.loop (f564l0)))) (f564r0))))
def f564C:AC:= .block 0 (.loop (f564l2))
def f564:Qg:=⟨2,159,[],f564C,true⟩
@[simp] theorem f564B:f564.body=f564C∧f564.res=[]∧f564.keep=true:=⟨rfl,rfl,rfl⟩
def f565C:AC:= .r [.I 2 0] (.v [.M 3 0,.M 4 0,.o 5 (.un .neg (.t 4)),.o 6 (.mx (.t 3) (.t 5)),.M 2 6])
def f565:Qg:=⟨1,7,[.tmp 2],f565C,false⟩
def f566l0:AC:= .r [.B 40 .lss 39 38] (.seq (.x 40 2) (.seq (.block 3 (.r [.M 41 39,.M 10 41] (.r [.F 42 9 1,.l 43 9 1 1,.M 44 10,.X 45 1 43 44,.o 46 (.ldg 45 1 false),.M 11 46] (.seq (.r [.M 47 11,.C 48 .neq 47 0,.M 49 48,.g 50 (.m 3) 49 true,.g 51 (.call 565 [.t 50]) 49 true,.g 52 (.m 11) 49 true,.g 53 (.call 565 [.t 52]) 49 true,.g 54 (.bin .quo (.i 4611686018427387904) (.t 53)) 49 true,.g 55 (.bin .gtr (.t 51) (.t 54)) 49 true,.P 56 49 55] (.i 56 (.v [.M 57 0,.o 58 (.nilck (.t 57)),.o 59 (.fadr 58 3),.n (.st 59 1 (.c (.bool true)))]))) (.r [.F 60 9 0,.l 61 9 0 1,.M 62 10,.X 63 1 61 62,.o 64 (.ldg 63 1 false),.M 65 3,.M 66 11,.B 67 .mul 65 66,.B 68 .sub 64 67,.X 69 1 61 62,.n (.st 69 1 (.t 68))] (.q [.M 70 0,.M 71 0,.o 72 (.nilck (.t 71)),.o 73 (.fadr 72 3),.o 74 (.ldg 73 1 false),.M 75 74,.g 76 (.fad 9 0) 75 false,.g 77 (.ldf 9 0 1 false) 75 false,.g 78 (.m 10) 75 false,.g 79 (.idxa 1 (.t 77) (.t 78)) 75 false,.g 80 (.ldg 79 1 false) 75 false,.g 81 (.call 565 [.t 80]) 75 false,.g 82 (.bin .gtr (.t 81) (.i 1099511627776)) 75 false,.Q 83 75 82,.o 84 (.nilck (.t 70)),.o 85 (.fadr 84 3),.n (.st 85 1 (.t 83))])))))) (.q [.C 86 .add 39 1,.M 39 86])))
def f566r0:AC:= .q [.C 87 .add 32 1,.M 32 87]
def f566l1:AC:= .r [.B 33 .lss 32 31] (.seq (.x 33 0) (.seq (.block 1 (.r [.X 34 2 30 32,.o 35 (.ldg 34 2 true),.o 9 (.alloc [.sl true 1 [],.sl true 1 []]),.S 9 0 2 35] (.r [.F 36 9 0,.l 37 9 0 1,.N 38 37,.I 39 0] (.block 2 (.loop (f566l0)))))) (f566r0)))
def f566C:AC:= .seq (.z [.M 12 1,.o 13 (.nilck (.t 12)),.o 14 (.fadr 13 0),.o 15 (.ldg 14 1 false),.M 16 2,.o 17 (.nilck (.t 16)),.o 18 (.fadr 17 0),.o 19 (.ldg 18 1 false),.o 20 (.mkst [.sl true 1 [],.sl true 1 []] [(0,1,.t 15),(1,1,.t 19)]),.M 21 1,.o 22 (.nilck (.t 21)),.o 23 (.fadr 22 1),.o 24 (.ldg 23 1 false),.M 25 2,.o 26 (.nilck (.t 25)),.o 27 (.fadr 26 1),.o 28 (.ldg 27 1 false),.o 29 (.mkst [.sl true 1 [],.sl true 1 []] [(0,1,.t 24),(1,1,.t 28)]),.o 30 (.mksg 2 [.t 20,.t 29]),.N 31 30,.I 32 0]) (.block 0 (.loop (f566l1)))
def f566:Qg:=⟨4,88,[],f566C,true⟩
def f567l0:AC:= .r [.B 14 .lss 13 12] (.seq (.x 14 0) (.seq (.block 1 (.r [.M 15 13,.M 5 15] (.r [.M 16 1,.o 17 (.nilck (.t 16)),.o 18 (.fadr 17 0),.o 19 (.ldg 18 1 false),.M 20 5,.X 21 1 19 20,.o 22 (.ldg 21 1 false),.M 6 22] (.seq (.r [.M 23 6,.C 24 .eql 23 0] (.i 24 (.exit 1))) (.seq (.r [.M 25 0,.o 26 (.nilck (.t 25)),.o 27 (.fadr 26 2),.o 28 (.ldg 27 1 false),.M 29 5,.X 30 1 28 29,.o 31 (.ldg 30 1 false),.C 32 .lss 31 0] (.i 32 (.v [.M 33 5,.M 4 33]))) (.seq (.z [.M 34 0,.o 35 (.nilck (.t 34)),.o 36 (.fadr 35 1),.o 37 (.ldg 36 1 false),.M 38 0,.o 39 (.nilck (.t 38)),.o 40 (.fadr 39 2),.o 41 (.ldg 40 1 false),.M 42 5,.X 43 1 41 42,.o 44 (.ldg 43 1 false),.X 45 1 37 44,.o 46 (.ldg 45 1 false),.M 7 46]) (.seq (.r [.M 47 6,.M 48 7,.o 49 (.nilck (.t 48)),.o 50 (.fadr 49 0),.o 51 (.ldg 50 1 false),.M 52 5,.X 53 1 51 52,.o 54 (.ldg 53 1 false),.B 55 .rem 47 54,.C 56 .neq 55 0] (.i 56 (.v [.M 57 5,.M 4 57]))) (.r [.M 58 0,.M 59 1,.M 60 7,.M 61 6,.M 62 7,.o 63 (.nilck (.t 62)),.o 64 (.fadr 63 0),.o 65 (.ldg 64 1 false),.M 66 5,.X 67 1 65 66,.o 68 (.ldg 67 1 false),.B 69 .quo 61 68,.c 70 566 [.t 58,.t 59,.t 60,.t 69]] (.r [.M 71 0,.o 72 (.nilck (.t 71)),.o 73 (.fadr 72 3),.o 74 (.ldg 73 1 false)] (.i 74 (.v [.I 4 (-1)]))))))))))) (.q [.C 75 .add 13 1,.M 13 75])))
def f567r0:AC:= .v [.I 4 (-1)]
def f567C:AC:= .r [.I 4 0] (.seq (.r [.M 8 0,.o 9 (.nilck (.t 8)),.o 10 (.fadr 9 0),.o 11 (.ldg 10 1 false),.N 12 11,.I 13 0] (.block 0 (.loop (f567l0)))) (f567r0))
def f567:Qg:=⟨2,76,[.tmp 4],f567C,true⟩
@[simp] theorem f567B:f567.body=f567C∧f567.res=[.tmp 4]∧f567.keep=true:=⟨rfl,rfl,rfl⟩
def f568C:AC:= .r [.b 3 1,.f 4 false] (.r [.L 8 3 0 4,.c 9 186 [.t 8],.M 7 9,.E 10 7 0,.E 11 7 1,.o 5 (.mvs 10),.M 6 11] (.v [.M 12 6,.C 13 .eql 12 0,.M 14 13,.g 15 (.m 0) 14 true,.g 16 (.m 5) 14 true,.g 17 (.call 555 [.t 15,.t 16]) 14 true,.P 18 14 17,.M 4 18]))
def f568:Qg:=⟨2,19,[.tmp 4],f568C,false⟩
@[simp] theorem f568B:f568.body=f568C∧f568.res=[.tmp 4]∧f568.keep=false:=⟨rfl,rfl,rfl⟩
def f734l0:AC:= .r [.B 35 .lss 34 33] (.seq (.x 35 0) (.seq (.block 1 (.r [.M 36 34,.X 37 4 32 34,.DT 38 37 4,.T 9,.M 8 36,.S 9 0 4 38] (.r [.M 40 7,.L 41 9 0 4,.c 42 517 [.t 40,.t 41],.M 39 42,.E 43 39 0,.E 44 39 1,.M 10 43,.M 11 44] (.r [.M 45 11,.C 46 .neq 45 0,.M 47 46,.g 48 (.m 10) 47 false,.g 49 (.m 6) 47 false,.g 50 (.fad 5 8) 47 false,.g 51 (.ldf 5 8 1 false) 47 false,.g 52 (.m 8) 47 false,.g 53 (.idxa 4 (.t 51) (.t 52)) 47 false,.g 54 (.fadr 53 3) 47 false,.g 55 (.ld 54 1 false) 47 false,.g 56 (.idxa 4 (.t 55) (.i 1)) 47 false,.g 57 (.ld 56 4 true) 47 false,.g 58 (.call 250 [.t 49,.t 57]) 47 false,.g 59 (.eqb true (.t 48) (.t 58)) 47 false,.Q 60 47 59] (.i 60 (.v [.f 4 false])))))) (.q [.C 61 .add 34 1,.M 34 61])))
def f734r0:AC:= .v [.f 4 true]
def f734C:AC:= .r [.f 4 false] (.seq (.r [.c 12 1 [],.o 13 (.un .not (.t 12)),.M 14 13,.g 15 (.m 1) 14 false,.g 16 (.lenl (.t 15)) 14 false,.g 17 (.bin .gtr (.t 16) (.i 20)) 14 false,.Q 18 14 17] (.i 18 (.v [.c 19 1 [],.M 4 19]))) (.r [.M 20 0,.M 21 1,.c 22 137 [.t 20,.t 21],.o 5 (.alloc [.str [],.int .i64 0,.sl true 6 [],.int .i64 0,.sl true 2 [],.int .i64 0,.int .i64 0,.int .i64 0,.sl true 4 [],.sl true 4 []]),.S 5 0 10 22] (.r [.F 23 5 0,.L 24 5 0 7,.c 25 99 [.t 24],.o 6 (.mvs 25)] (.seq (.z [.M 26 6,.c 27 407 [.t 26],.F 28 5 8,.l 29 5 8 1,.A 30 56 4 27 29,.o 7 (.mvs 30)]) (.seq (.r [.F 31 5 9,.l 32 5 9 1,.N 33 32,.I 34 0] (.block 0 (.loop (f734l0)))) (f734r0))))))
def f734:Qg:=⟨2,62,[.tmp 4],f734C,false⟩
@[simp] theorem f734B:f734.body=f734C∧f734.res=[.tmp 4]∧f734.keep=false:=⟨rfl,rfl,rfl⟩
def tbL:List (Nat×AFn):=[(1,.code f1),(2,.code f2),(3,.code f3),(4,.code f4),(5,.code f5),(6,.code f6),(7,.code f7),(8,.code f8),(9,.code f9),(10,.orc (Z2 Mv)),(16,.code f16),(17,.code f17),(18,.orc (Z2 Oz)),(25,.code f25),(26,.code f26),(27,.code f27),(28,.code f28),(29,.code f29),(30,.code f30),(31,.code f31),(32,.code f32),(33,.orc (Z2 O5)),(36,.code f36),(37,.code f37),(38,.code f38),(39,.code f39),(40,.code f40),(41,.code f41),(42,.code f42),(43,.code f43),(44,.code f44),(45,.code f45),(46,.code f46),(47,.code f47),(48,.code f48),(49,.code f49),(50,.code f50),(51,.orc (Zx false 72 6)),(52,.orc (Zx false 16 2)),(53,.code f53),(54,.code f54),(55,.code f55),(56,.code f56),(57,.code f57),(58,.code f58),(59,.code f59),(60,.code f60),(61,.code f61),(62,.code f62),(63,.code f63),(64,.code f64),(65,.code f65),(66,.orc (Zx true 72 6)),(67,.code f67),(68,.code f68),(69,.code f69),(70,.code f70),(71,.code f71),(72,.code f72),(73,.code f73),(74,.code f74),(75,.code f75),(76,.orc (Z2 Ka)),(79,.code f79),(80,.code f80),(81,.code f81),(82,.code f82),(83,.code f83),(84,.code f84),(85,.code f85),(86,.code f86),(87,.orc (Zx true 16 2)),(89,.code f89),(90,.code f90),(91,.code f91),(92,.code f92),(93,.code f93),(94,.code f94),(96,.code f96),(99,.code f99),(103,.code f103),(104,.code f104),(105,.code f105),(106,.code f106),(107,.code f107),(109,.code f109),(110,.code f110),(115,.code f115),(116,.code f116),(117,.code f117),(118,.code f118),(119,.code f119),(120,.code f120),(121,.code f121),(122,.code f122),(124,.code f124),(125,.code f125),(126,.code f126),(127,.code f127),(128,.code f128),(129,.code f129),(130,.code f130),(131,.code f131),(132,.code f132),(133,.code f133),(134,.code f134),(135,.code f135),(137,.code f137),(138,.code f138),(141,.orc (TF false 16 2)),(142,.code f142),(143,.code f143),(144,.code f144),(145,.code f145),(159,.code f159),(160,.code f160),(161,.code f161),(162,.code f162),(163,.code f163),(164,.orc (Z2 Mo)),(165,.code f165),(166,.code f166),(167,.code f167),(168,.code f168),(169,.code f169),(170,.orc SQ),(171,.code f171),(172,.code f172),(173,.code f173),(174,.code f174),(175,.code f175),(176,.code f176),(177,.code f177),(178,.code f178),(179,.code f179),(180,.code f180),(181,.orc (Ow 56 4)),(182,.code f182),(183,.code f183),(184,.code f184),(185,.code f185),(186,.code f186),(187,.code f187),(188,.code f188),(189,.code f189),(190,.code f190),(191,.code f191),(192,.code f192),(193,.orc (Zx true 56 4)),(194,.orc (TF true 64 5)),(195,.code f195),(196,.code f196),(197,.code f197),(198,.code f198),(199,.code f199),(200,.code f200),(201,.code f201),(202,.code f202),(203,.code f203),(204,.code f204),(205,.code f205),(206,.code f206),(207,.code f207),(214,.code f214),(215,.code f215),(250,.code f250),(363,.code f363),(372,.orc (Zx false 24 1)),(373,.code f373),(375,.code f375),(378,.code f378),(407,.orc (Zx false 56 4)),(418,.code f418),(497,.code f497),(511,.code f511),(512,.code f512),(517,.code f517),(518,.code f518),(519,.code f519),(520,.code f520),(521,.code f521),(522,.code f522),(523,.code f523),(524,.code f524),(525,.orc (Zx true 56 4)),(526,.orc (TF true 56 4)),(527,.code f527),(528,.code f528),(529,.code f529),(530,.code f530),(531,.code f531),(532,.code f532),(533,.code f533),(534,.code f534),(535,.code f535),(536,.code f536),(537,.code f537),(538,.code f538),(539,.code f539),(540,.code f540),(541,.code f541),(542,.code f542),(543,.code f543),(544,.code f544),(545,.code f545),(546,.code f546),(547,.code f547),(548,.code f548),(549,.code f549),(550,.code f550),(551,.code f551),(552,.code f552),(553,.code f553),(554,.code f554),(555,.code f555),(556,.code f556),(557,.orc (Zx true 64 5)),(558,.code f558),(559,.code f559),(560,.code f560),(561,.code f561),(562,.code f562),(563,.code f563),(564,.code f564),(565,.code f565),(566,.code f566),(567,.code f567),(568,.code f568),(734,.code f734)]
def tb:Nat→Option AFn:=fun f=>tbL.lookup f
theorem tb_3:tb 3=some (.code f3):=rfl
theorem tb_4:tb 4=some (.code f4):=rfl
theorem tb_5:tb 5=some (.code f5):=rfl
theorem tb_6:tb 6=some (.code f6):=rfl
theorem tb_7:tb 7=some (.code f7):=rfl
theorem tb_8:tb 8=some (.code f8):=rfl
theorem tb_9:tb 9=some (.code f9):=rfl
theorem tb_10:tb 10=some (.orc (Z2 Mv)):=rfl
theorem tb_16:tb 16=some (.code f16):=rfl
theorem tb_17:tb 17=some (.code f17):=rfl
theorem tb_18:tb 18=some (.orc (Z2 Oz)):=rfl
theorem tb_27:tb 27=some (.code f27):=rfl
theorem tb_28:tb 28=some (.code f28):=rfl
theorem tb_29:tb 29=some (.code f29):=rfl
theorem tb_30:tb 30=some (.code f30):=rfl
theorem tb_31:tb 31=some (.code f31):=rfl
theorem tb_32:tb 32=some (.code f32):=rfl
theorem tb_33:tb 33=some (.orc (Z2 O5)):=rfl
theorem tb_36:tb 36=some (.code f36):=rfl
theorem tb_41:tb 41=some (.code f41):=rfl
theorem tb_42:tb 42=some (.code f42):=rfl
theorem tb_43:tb 43=some (.code f43):=rfl
theorem tb_44:tb 44=some (.code f44):=rfl
theorem tb_45:tb 45=some (.code f45):=rfl
theorem tb_46:tb 46=some (.code f46):=rfl
theorem tb_47:tb 47=some (.code f47):=rfl
theorem tb_48:tb 48=some (.code f48):=rfl
theorem tb_49:tb 49=some (.code f49):=rfl
theorem tb_51:tb 51=some (.orc (Zx false 72 6)):=rfl
theorem tb_52:tb 52=some (.orc (Zx false 16 2)):=rfl
theorem tb_54:tb 54=some (.code f54):=rfl
theorem tb_55:tb 55=some (.code f55):=rfl
theorem tb_56:tb 56=some (.code f56):=rfl
theorem tb_57:tb 57=some (.code f57):=rfl
theorem tb_58:tb 58=some (.code f58):=rfl
theorem tb_59:tb 59=some (.code f59):=rfl
theorem tb_60:tb 60=some (.code f60):=rfl
theorem tb_61:tb 61=some (.code f61):=rfl
theorem tb_66:tb 66=some (.orc (Zx true 72 6)):=rfl
theorem tb_71:tb 71=some (.code f71):=rfl
theorem tb_73:tb 73=some (.code f73):=rfl
theorem tb_74:tb 74=some (.code f74):=rfl
theorem tb_75:tb 75=some (.code f75):=rfl
theorem tb_76:tb 76=some (.orc (Z2 Ka)):=rfl
theorem tb_87:tb 87=some (.orc (Zx true 16 2)):=rfl
theorem tb_89:tb 89=some (.code f89):=rfl
theorem tb_90:tb 90=some (.code f90):=rfl
theorem tb_91:tb 91=some (.code f91):=rfl
theorem tb_99:tb 99=some (.code f99):=rfl
theorem tb_103:tb 103=some (.code f103):=rfl
theorem tb_104:tb 104=some (.code f104):=rfl
theorem tb_105:tb 105=some (.code f105):=rfl
theorem tb_106:tb 106=some (.code f106):=rfl
theorem tb_107:tb 107=some (.code f107):=rfl
theorem tb_109:tb 109=some (.code f109):=rfl
theorem tb_110:tb 110=some (.code f110):=rfl
theorem tb_115:tb 115=some (.code f115):=rfl
theorem tb_116:tb 116=some (.code f116):=rfl
theorem tb_117:tb 117=some (.code f117):=rfl
theorem tb_118:tb 118=some (.code f118):=rfl
theorem tb_119:tb 119=some (.code f119):=rfl
theorem tb_120:tb 120=some (.code f120):=rfl
theorem tb_121:tb 121=some (.code f121):=rfl
theorem tb_122:tb 122=some (.code f122):=rfl
theorem tb_124:tb 124=some (.code f124):=rfl
theorem tb_125:tb 125=some (.code f125):=rfl
theorem tb_126:tb 126=some (.code f126):=rfl
theorem tb_127:tb 127=some (.code f127):=rfl
theorem tb_128:tb 128=some (.code f128):=rfl
theorem tb_129:tb 129=some (.code f129):=rfl
theorem tb_130:tb 130=some (.code f130):=rfl
theorem tb_131:tb 131=some (.code f131):=rfl
theorem tb_132:tb 132=some (.code f132):=rfl
theorem tb_133:tb 133=some (.code f133):=rfl
theorem tb_134:tb 134=some (.code f134):=rfl
theorem tb_135:tb 135=some (.code f135):=rfl
theorem tb_137:tb 137=some (.code f137):=rfl
theorem tb_138:tb 138=some (.code f138):=rfl
theorem tb_141:tb 141=some (.orc (TF false 16 2)):=rfl
theorem tb_159:tb 159=some (.code f159):=rfl
theorem tb_160:tb 160=some (.code f160):=rfl
theorem tb_161:tb 161=some (.code f161):=rfl
theorem tb_162:tb 162=some (.code f162):=rfl
theorem tb_163:tb 163=some (.code f163):=rfl
theorem tb_164:tb 164=some (.orc (Z2 Mo)):=rfl
theorem tb_165:tb 165=some (.code f165):=rfl
theorem tb_166:tb 166=some (.code f166):=rfl
theorem tb_167:tb 167=some (.code f167):=rfl
theorem tb_168:tb 168=some (.code f168):=rfl
theorem tb_169:tb 169=some (.code f169):=rfl
theorem tb_170:tb 170=some (.orc SQ):=rfl
theorem tb_171:tb 171=some (.code f171):=rfl
theorem tb_172:tb 172=some (.code f172):=rfl
theorem tb_173:tb 173=some (.code f173):=rfl
theorem tb_174:tb 174=some (.code f174):=rfl
theorem tb_175:tb 175=some (.code f175):=rfl
theorem tb_176:tb 176=some (.code f176):=rfl
theorem tb_177:tb 177=some (.code f177):=rfl
theorem tb_178:tb 178=some (.code f178):=rfl
theorem tb_179:tb 179=some (.code f179):=rfl
theorem tb_180:tb 180=some (.code f180):=rfl
theorem tb_181:tb 181=some (.orc (Ow 56 4)):=rfl
theorem tb_182:tb 182=some (.code f182):=rfl
theorem tb_183:tb 183=some (.code f183):=rfl
theorem tb_184:tb 184=some (.code f184):=rfl
theorem tb_185:tb 185=some (.code f185):=rfl
theorem tb_186:tb 186=some (.code f186):=rfl
theorem tb_187:tb 187=some (.code f187):=rfl
theorem tb_188:tb 188=some (.code f188):=rfl
theorem tb_189:tb 189=some (.code f189):=rfl
theorem tb_190:tb 190=some (.code f190):=rfl
theorem tb_191:tb 191=some (.code f191):=rfl
theorem tb_192:tb 192=some (.code f192):=rfl
theorem tb_193:tb 193=some (.orc (Zx true 56 4)):=rfl
theorem tb_194:tb 194=some (.orc (TF true 64 5)):=rfl
theorem tb_195:tb 195=some (.code f195):=rfl
theorem tb_196:tb 196=some (.code f196):=rfl
theorem tb_197:tb 197=some (.code f197):=rfl
theorem tb_198:tb 198=some (.code f198):=rfl
theorem tb_199:tb 199=some (.code f199):=rfl
theorem tb_200:tb 200=some (.code f200):=rfl
theorem tb_201:tb 201=some (.code f201):=rfl
theorem tb_202:tb 202=some (.code f202):=rfl
theorem tb_203:tb 203=some (.code f203):=rfl
theorem tb_204:tb 204=some (.code f204):=rfl
theorem tb_205:tb 205=some (.code f205):=rfl
theorem tb_206:tb 206=some (.code f206):=rfl
theorem tb_207:tb 207=some (.code f207):=rfl
theorem tb_214:tb 214=some (.code f214):=rfl
theorem tb_215:tb 215=some (.code f215):=rfl
theorem tb_250:tb 250=some (.code f250):=rfl
theorem tb_372:tb 372=some (.orc (Zx false 24 1)):=rfl
theorem tb_373:tb 373=some (.code f373):=rfl
theorem tb_375:tb 375=some (.code f375):=rfl
theorem tb_378:tb 378=some (.code f378):=rfl
theorem tb_407:tb 407=some (.orc (Zx false 56 4)):=rfl
theorem tb_418:tb 418=some (.code f418):=rfl
theorem tb_497:tb 497=some (.code f497):=rfl
theorem tb_511:tb 511=some (.code f511):=rfl
theorem tb_512:tb 512=some (.code f512):=rfl
theorem tb_517:tb 517=some (.code f517):=rfl
theorem tb_518:tb 518=some (.code f518):=rfl
theorem tb_519:tb 519=some (.code f519):=rfl
theorem tb_520:tb 520=some (.code f520):=rfl
theorem tb_521:tb 521=some (.code f521):=rfl
theorem tb_522:tb 522=some (.code f522):=rfl
theorem tb_523:tb 523=some (.code f523):=rfl
theorem tb_524:tb 524=some (.code f524):=rfl
theorem tb_525:tb 525=some (.orc (Zx true 56 4)):=rfl
theorem tb_526:tb 526=some (.orc (TF true 56 4)):=rfl
theorem tb_527:tb 527=some (.code f527):=rfl
theorem tb_528:tb 528=some (.code f528):=rfl
theorem tb_529:tb 529=some (.code f529):=rfl
theorem tb_530:tb 530=some (.code f530):=rfl
theorem tb_531:tb 531=some (.code f531):=rfl
theorem tb_532:tb 532=some (.code f532):=rfl
theorem tb_533:tb 533=some (.code f533):=rfl
theorem tb_534:tb 534=some (.code f534):=rfl
theorem tb_535:tb 535=some (.code f535):=rfl
theorem tb_536:tb 536=some (.code f536):=rfl
theorem tb_537:tb 537=some (.code f537):=rfl
theorem tb_538:tb 538=some (.code f538):=rfl
theorem tb_539:tb 539=some (.code f539):=rfl
theorem tb_540:tb 540=some (.code f540):=rfl
theorem tb_541:tb 541=some (.code f541):=rfl
theorem tb_542:tb 542=some (.code f542):=rfl
theorem tb_543:tb 543=some (.code f543):=rfl
theorem tb_544:tb 544=some (.code f544):=rfl
theorem tb_545:tb 545=some (.code f545):=rfl
theorem tb_546:tb 546=some (.code f546):=rfl
theorem tb_547:tb 547=some (.code f547):=rfl
theorem tb_548:tb 548=some (.code f548):=rfl
theorem tb_549:tb 549=some (.code f549):=rfl
theorem tb_550:tb 550=some (.code f550):=rfl
theorem tb_551:tb 551=some (.code f551):=rfl
theorem tb_552:tb 552=some (.code f552):=rfl
theorem tb_553:tb 553=some (.code f553):=rfl
theorem tb_554:tb 554=some (.code f554):=rfl
theorem tb_555:tb 555=some (.code f555):=rfl
theorem tb_556:tb 556=some (.code f556):=rfl
theorem tb_557:tb 557=some (.orc (Zx true 64 5)):=rfl
theorem tb_558:tb 558=some (.code f558):=rfl
theorem tb_559:tb 559=some (.code f559):=rfl
theorem tb_560:tb 560=some (.code f560):=rfl
theorem tb_561:tb 561=some (.code f561):=rfl
theorem tb_562:tb 562=some (.code f562):=rfl
theorem tb_563:tb 563=some (.code f563):=rfl
theorem tb_564:tb 564=some (.code f564):=rfl
theorem tb_567:tb 567=some (.code f567):=rfl
theorem tb_568:tb 568=some (.code f568):=rfl
theorem tb_734:tb 734=some (.code f734):=rfl
end Go.Am.F
