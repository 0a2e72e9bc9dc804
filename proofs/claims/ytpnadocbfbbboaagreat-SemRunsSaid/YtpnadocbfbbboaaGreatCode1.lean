/- Part of a proof. -/
import Derived.Test.YtpnadocbfbbboaaGreatA6

set_option maxRecDepth 100000
namespace Ax
@[simp]abbrev aR.v(d k:Nat):aR:=⟨some d,.move,[.tmp k false],none⟩
@[simp]abbrev aR.w(d k:Nat):aR:=⟨some d,.move,[.tmp k true],none⟩
@[simp]abbrev aR.e(d i k:Nat):aR:=⟨some d,.fieldAddr i,[.tmp k false],none⟩
@[simp]abbrev aR.E(d i k:Nat):aR:=⟨some d,.fieldAddr i,[.tmp k true],none⟩
@[simp]abbrev aR.k(d i k:Nat):aR:=⟨some d,.gW i false 1 false,[.tmp k false],none⟩
@[simp]abbrev aR.D(d k:Nat):aR:=⟨some d,.load false 1 false,[.tmp k true],none⟩
@[simp]abbrev aR.N(d k:Nat):aR:=⟨some d,.nilCheck,[.tmp k false],none⟩
@[simp]abbrev aR.I(d:Nat)(o:Go.BinOp)(k:Nat)(i:Int):aR:=⟨some d,.td o,[.tmp k false,.const (.int .i64 i)],none⟩
@[simp]abbrev aR.J(d:Nat)(o:Go.BinOp)(k i:Nat):aR:=⟨some d,.td o,[.tmp k false,.tmp i false],none⟩
@[simp]abbrev aR.A(d j n k:Nat):aR:=⟨some d,.gW j true n false,[.tmp k false],none⟩
@[simp]abbrev aR.S(j n k i:Nat):aR:=⟨none,.j9 j n,[.tmp k false,.tmp i false],none⟩
@[simp]abbrev aR.Q(j n k i:Nat):aR:=⟨none,.j9 j n,[.tmp k false,.tmp i true],none⟩
@[simp]abbrev aR.R(n k i:Nat):aR:=⟨none,.store n,[.tmp k true,.tmp i false],none⟩
@[simp]abbrev aR.X(d n k i:Nat):aR:=⟨some d,.indexAddr n,[.tmp k true,.tmp i false],none⟩
@[simp]abbrev aR.Y(d n k i:Nat):aR:=⟨some d,.indexAddr n,[.tmp k false,.tmp i false],none⟩
@[simp]abbrev aR.Z(d n k:Nat)(i:Int):aR:=⟨some d,.indexAddr n,[.tmp k true,.const (.int .i64 i)],none⟩
@[simp]abbrev aR.L(d n k:Nat):aR:=⟨some d,.load true n false,[.tmp k true],none⟩
@[simp]abbrev aR.H(d k:Nat):aR:=⟨some d,.len .sl,[.tmp k true],none⟩
@[simp]abbrev aR.h(d k:Nat):aR:=⟨some d,.len .sl,[.tmp k false],none⟩
@[simp]abbrev aR.x(d i k:Nat):aR:=⟨some d,.extract i,[.tmp k false],none⟩
@[simp]abbrev aR.u(d i k:Nat):aR:=⟨some d,.extract i,[.tmp k true],none⟩
@[simp]abbrev aR.B(d j n k:Nat):aR:=⟨some d,.vn j n,[.tmp k true],none⟩
@[simp]abbrev aR.O(d k i:Nat):aR:=⟨some d,.pick,[.tmp k false,.tmp i false,.const (.bool false)],none⟩
@[simp]abbrev aR.P(d k i:Nat):aR:=⟨some d,.pick,[.tmp k false,.const (.bool true),.tmp i false],none⟩
@[simp]abbrev aR.G(d j:Nat)(z:List AV):aR:=⟨some d,.cq j z,[],none⟩
@[simp]abbrev aR.a(d f k:Nat):aR:=⟨some d,.call f,[.tmp k false],none⟩
@[simp]abbrev aR.p(d f k i:Nat):aR:=⟨some d,.call f,[.tmp k false,.tmp i true],none⟩
@[simp]abbrev aR.q(d f k i:Nat):aR:=⟨some d,.call f,[.tmp k false,.tmp i false],none⟩
@[simp]abbrev aR.vy(d k g:Nat):aR:=⟨some d,.move,[.tmp k false],some (g,true)⟩
@[simp]abbrev aR.vz(d k g:Nat):aR:=⟨some d,.move,[.tmp k false],some (g,false)⟩
@[simp]abbrev aR.ey(d i k g:Nat):aR:=⟨some d,.fieldAddr i,[.tmp k false],some (g,true)⟩
@[simp]abbrev aR.ez(d i k g:Nat):aR:=⟨some d,.fieldAddr i,[.tmp k false],some (g,false)⟩
@[simp]abbrev aR.Ey(d i k g:Nat):aR:=⟨some d,.fieldAddr i,[.tmp k true],some (g,true)⟩
@[simp]abbrev aR.Ez(d i k g:Nat):aR:=⟨some d,.fieldAddr i,[.tmp k true],some (g,false)⟩
@[simp]abbrev aR.ky(d i k g:Nat):aR:=⟨some d,.gW i false 1 false,[.tmp k false],some (g,true)⟩
@[simp]abbrev aR.kz(d i k g:Nat):aR:=⟨some d,.gW i false 1 false,[.tmp k false],some (g,false)⟩
@[simp]abbrev aR.Dy(d k g:Nat):aR:=⟨some d,.load false 1 false,[.tmp k true],some (g,true)⟩
@[simp]abbrev aR.Dz(d k g:Nat):aR:=⟨some d,.load false 1 false,[.tmp k true],some (g,false)⟩
@[simp]abbrev aR.Hy(d k g:Nat):aR:=⟨some d,.len .sl,[.tmp k true],some (g,true)⟩
@[simp]abbrev aR.Hz(d k g:Nat):aR:=⟨some d,.len .sl,[.tmp k true],some (g,false)⟩
@[simp]abbrev aR.Iy(d:Nat)(o:Go.BinOp)(k:Nat)(i:Int)(g:Nat):aR:=⟨some d,.td o,[.tmp k false,.const (.int .i64 i)],some (g,true)⟩
@[simp]abbrev aR.Iz(d:Nat)(o:Go.BinOp)(k:Nat)(i:Int)(g:Nat):aR:=⟨some d,.td o,[.tmp k false,.const (.int .i64 i)],some (g,false)⟩
@[simp]abbrev aR.Jy(d:Nat)(o:Go.BinOp)(k i g:Nat):aR:=⟨some d,.td o,[.tmp k false,.tmp i false],some (g,true)⟩
@[simp]abbrev aR.Jz(d:Nat)(o:Go.BinOp)(k i g:Nat):aR:=⟨some d,.td o,[.tmp k false,.tmp i false],some (g,false)⟩
@[simp]abbrev aR.Xz(d n k i g:Nat):aR:=⟨some d,.indexAddr n,[.tmp k true,.tmp i false],some (g,false)⟩
@[simp]abbrev aR.Zy(d n k:Nat)(i:Int)(g:Nat):aR:=⟨some d,.indexAddr n,[.tmp k true,.const (.int .i64 i)],some (g,true)⟩
@[simp]abbrev bN.w(t:Nat)(c:List Nat)(x:Nat):bN:=.cond (.tmp t true) [] .skip c (.exit x)
@[simp]abbrev bN.s(l:List aR)(c:List Nat)(k:bN):bN:=.seq (.region l none c) k
end Ax
namespace bY
open Ax Go
def s3:aL:={ eP:=3,mode:=.pure,aH:=3,aP:=2,dD:=[],results:=[.tmp 6 false],body:=
 (.s [.m 6 (.b false)] [6] (.s [.v 10 0,.a 11 10 10,.w 9 11,
 .x 12 0 9,.u 13 1 9,.G 7 0 [.af,.af,.af],.G 8 1 [.i 0,.i 0],
 .Q 0 3 7 12,.S 1 2 8 13] [10,13] (.seq (.s [.v 14 0,.o 15 (.len .str) [.t 14],
 .I 16 .gtr 15 4000,.v 17 16,.ez 18 0 8 17,.kz 19 1 18 17,
 .Iz 20 .neq 19 0 17,.P 21 17 20,.v 22 21,.vz 23 1 22,
 .Hz 24 23 22,.Iz 25 .gtr 24 100 22,.P 26 22 25,.v 27 26,
 .vz 28 2 27,.Iz 29 .gtr 28 20000 27,
 .P 30 27 29] [0,8,14,15,16,17,18,19,20,21,22,23,24,25,26,27,28,29] (.cond (.T 30) [1,2,7] (.s [
 .m 6 (.b true)] [] .ret) [] .skip)) (.seq (.r [.A 31 0 3 7,.v 32 1,.v 33 2,
 .c 34 12 [.T 31,.T 32,.t 33],.A 35 0 3 7,.v 36 1,.v 37 2,.c 38 13 [.T 35,.T 36,.t 37],
 .c 39 11 [.T 34,.T 38],.v 40 39,.y 41 (.call 14) [] 40,.O 42 40 41,
 .v 6 42] (some []) [1,2,7,33,37,39,40,41,42]) .ret)))) }
def Tc:bN:=
 (.seq (.s [.v 21 6,.a 22 19 21,.v 23 22,.vy 24 6 23,.y 25 (.call 20) [.t 24] 23,
 .y 26 (.field 0 1 false) [.t 25] 23,.Iy 27 .neq 26 0 23,
 .O 28 23 27] [21,22,23,24,25,26,27] (.w 28 [] 0)) (.block 1 (.block 2 (.seq (.s [
 .v 32 6,.c 33 21 [.t 32,.const (.str [114,101,99,111,114,100])],.v 34 33,.ey 35 0 7 34,
 .ky 36 3 35 34,.Hy 37 36 34,.Iy 38 .eql 37 12 34,
 .O 39 34 38,.v 31 39] [32,33,34,35,36,37,38,39] (.cond (.t 31) [] .skip [31] (.s [
 .v 40 6,.c 41 21 [.t 40,.const (.str [103,108,111,98,97,108])],.v 42 41,.ey 43 1 7 42,
 .ky 44 3 43 42,.Hy 45 44 42,.Iy 46 .eql 45 8 42,
 .O 47 42 46,.v 31 47] [40,41,42,43,44,45,46,47] (.cond (.t 31) [] .skip [31] (.g [
 .v 48 6,.c 49 21 [.t 48,.const (.str [102,117,110,99])],.v 50 49,.ey 51 2 7 50,
 .ky 52 3 51 50,.Hy 53 52 50,.Iy 54 .eql 53 16 50,
 .O 55 50 54,.v 31 55] [48,49,50,51,52,53,54,55]))))) (.cond (.T 31) [] (.g [.v 56 6,
 .c 57 22 [.t 56,.i 4]] [56,57]) [] (.s [.v 59 6,
 .c 60 21 [.t 59,.const (.str [114,101,99,111,114,100])],.v 58 60] [59,60] (.cond (.T 58) [] (.s [.v 61 6,
 .N 62 61,.E 63 1 62,.D 64 63,.I 65 .add 64 1,
 .N 66 61,.E 67 1 66,.R 1 67 65] [61,64,65] (.r [.e 68 0 7,
 .o 69 (.gW 3 false 1 true) [.t 68],.v 70 6,.a 71 23 70,.o 72 (.lit 3 1 [.str [],.af,.i 0] [0]) [.T 71],
 .o 73 (.append 3 48) [.T 69,.T 72],.e 74 0 7,.Q 3 1 74 73] (some []) [68,70,74])) [] (.s [
 .v 76 6,.c 77 21 [.t 76,.const (.str [103,108,111,98,97,108])],.v 75 77] [76,77] (.cond (.T 75) [] (.s [
 .v 78 6,.N 79 78,.E 80 1 79,.D 81 80,
 .I 82 .add 81 1,.N 83 78,.E 84 1 83,.R 1 84 82] [78,81,82] (.seq
 (.r [.e 85 1 7,.o 86 (.gW 3 false 1 true) [.t 85],.v 87 6,.a 88 24 87,
 .o 89 (.lit 4 1 [.str [],.str [],.i 0,.i 0] [0]) [.t 88],.o 90 (.append 4 48) [.T 86,.T 89],.e 91 1 7,
 .Q 3 1 91 90] (some []) [85,87,88,91]) (.g [.v 92 6,.c 93 25 [.t 92,.const (.str [59])]] [92,93]))) [] (.s [.v 95 6,.c 96 21 [.t 95,.const (.str [102,117,110,99])],.v 94 96] [95,96] (.cond (.T 94) [] (.s [
 .v 97 6,.N 98 97,.E 99 1 98,.D 100 99,
 .I 101 .add 100 1,.N 102 97,.E 103 1 102,.R 1 103 101] [97,100,101]
 (.r [.e 104 2 7,.o 105 (.gW 3 false 1 true) [.t 104],.v 106 6,.a 107 26 106,
 .o 108 (.lit 7 1 [.str [],.af,.bool false,.str [],.i 0,.af,.i 0] [0]) [.T 107],.o 109 (.append 7 104) [.T 105,.T 108],
 .e 110 2 7,.Q 3 1 110 109] (some []) [104,106,110])) [] (.g [.v 29 6,
 .c 30 22 [.t 29,.i 2]] [29,30]))))))))))))
def ze:aL:={ eP:=10,mode:=.pure,aH:=1,aP:=4,dD:=[],results:=[.box 2 0 3 true,.box 3 1 2 true],body:=
 (.s [.G 2 0 [.af,.af,.af],.G 3 1 [.i 0,.i 0]] [] (.s [.v 9 0,
 .a 10 18 9,.w 8 10,.x 11 0 8,.u 12 1 8,.G 5 2 [.i 0,.i 0],
 .w 4 11,.S 2 2 5 12] [0,9,12] (.seq (.s [.e 13 0 5,.k 14 2 13,
 .I 15 .neq 14 0] [13,14] (.cond (.T 15) [4] (.seq (.r [.o 16 (.build [.af,.af,.af] []) [],
 .A 17 2 2 5,.Q 0 3 2 16,.S 1 2 3 17] (some []) [5,17]) .ret) [5] .skip)) (.s [
 .w 18 4,.o 19 (.build [.af,.i 0,.i 0,.i 0,.i 0] [(0,1)]) [.T 18],.o 20 (.box 5) [.T 19],
 .v 6 20] [20] (.s [.G 7 3 [.af,.af,.af]] [] (.seq (.block 0 (.loop Tc)) (.seq (.s [
 .v 111 6,.a 112 19 111,.o 113 (.un .not) [.t 112]] [111,112] (.cond (.T 113) [7] (.seq (.r [
 .o 114 (.build [.af,.af,.af] []) [],.v 115 6,.N 116 115,.E 117 3 116,
 .L 118 2 117,.Q 0 3 2 114,.S 1 2 3 118] (some []) [6,115,118]) .ret) [6] .skip)) (.s [.A 119 3 3 7,.o 120 (.build [.i 0,.i 0] []) [],.Q 0 3 2 119,
 .S 1 2 3 120] [7,120] .ret)))))))) }
def s11:aL:={ eP:=11,mode:=.pure,aH:=2,aP:=2,dD:=[],results:=[.tmp 4 false],body:=
 (.s [.B 2 0 4 0,.B 3 1 4 1,.m 4 (.b false)] [4] (.s [.e 5 0 2,
 .k 6 0 5,.e 7 0 3,.k 8 1 7,.J 9 .eql 6 8,.v 10 9,
 .ey 11 1 2 10,.ky 12 0 11 10,.ey 13 1 3 10,.ky 14 1 13 10,
 .Jy 15 .eql 12 14 10,.O 16 10 15,.v 17 16,.ey 18 3 2 17,
 .ky 19 0 18 17,.ey 20 3 3 17,.ky 21 1 20 17,.Jy 22 .eql 19 21 17,
 .O 23 17 22,.v 24 23,.ey 25 2 2 24,.ky 26 0 25 24,
 .ey 27 2 3 24,.ky 28 1 27 24,.y 29 (.call 17) [.T 26,.T 28] 24,.O 30 24 29,
 .v 4 30] [2,3,5,6,7,8,9,10,11,12,13,14,15,16,17,18,19,20,21,22,23,24,25,26,27,28,29,30] .ret)) }
def s12:aL:={ eP:=12,mode:=.pure,aH:=3,aP:=4,dD:=[],results:=[.box 6 1 4 true],body:=
 (.s [.B 3 0 3 0,.G 6 1 [.i 0,.i 0,.af,.i 0]] [] (.s [
 .A 11 0 3 3,.c 12 27 [.T 11],.w 10 12,.x 13 0 10,.u 14 1 10,
 .G 7 2 [.af,.af,.af,.i 0,.af],.G 8 3 [.i 0,.i 0],.Q 2 5 7 13,
 .S 3 2 8 14] [14] (.seq (.s [.e 15 0 8,.k 16 3 15,
 .I 17 .neq 16 0,.v 18 17,.z 19 (.gW 0 true 3 false) [.t 3] 18,.z 20 (.call 28) [.T 19] 18,
 .z 21 (.field 0 1 false) [.t 20] 18,.Iz 22 .neq 21 0 18,
 .P 23 18 22] [3,8,15,16,17,18,19,20,21,22] (.cond (.T 23) [1,2,7] (.s [
 .o 24 (.build [.i 0,.i 0,.af,.i 0] []) [],.Q 1 4 6 24] [] .ret) [] .skip)) (.seq (.r [
 .A 25 2 5 7,.c 26 29 [],.w 27 1,.v 28 2,.o 29 (.uc true) [.t 28,.i 0],
 .e 30 0 7,.e 31 1 30,.k 32 2 31,.H 33 32,
 .o 34 (.x6 1 8 [.i 0]) [.t 33,.t 33],
 .o 35 (.build [.af,.af,.af,.i 0,.af,.dV,.af,.i 0,.af,.i 0,.i 0,.i 0,.af,.i 0] [(0,5),(5,1),(6,1),(7,1),(8,1)]) [.T 25,.t 26,.T 27,.t 29,.T 34],
 .o 36 (.box 14) [.T 35],.v 9 36] (some [(8,1)]) [2,26,28,29,30,31,33,36]) (.seq (.seq (.uE 9 8) (.g [.v 37 9,
 .e 38 0 7,.e 39 3 38,.k 40 2 39,
 .c 41 30 [.t 37,.t 40,.const .af]] [7,37,38,39,40,41])) (.seq (.s [.v 42 9,.a 43 31 42,
 .o 44 (.un .not) [.t 43]] [42,43] (.cond (.T 44) [] (.g [.v 45 9,.N 46 45,.E 47 10 46,
 .E 48 0 47,.n (.store 1) [.T 48,.i 1]] [45]) [] .skip)) (.seq (.seq (.uE 9 12) (.g [.v 49 9,
 .N 50 49,.E 51 10 50,.L 52 4 51,.Q 1 4 6 52] [9,49])) .ret))))))) }
def s13:aL:={ eP:=13,mode:=.pure,aH:=3,aP:=4,dD:=[],results:=[.box 6 1 4 true],body:=
 (.s [.B 3 0 3 0,.G 6 1 [.i 0,.i 0,.af,.i 0]] [] (.s [
 .A 11 0 3 3,.c 12 32 [.T 11],.w 10 12,.x 13 0 10,.u 14 1 10,
 .G 7 2 [.af,.af,.af,.i 0,.af],.G 8 3 [.i 0,.i 0],.Q 2 5 7 13,
 .S 3 2 8 14] [14] (.seq (.s [.e 15 0 8,.k 16 3 15,
 .I 17 .neq 16 0,.v 18 17,.z 19 (.gW 0 true 3 false) [.t 3] 18,.z 20 (.call 33) [.T 19] 18,
 .z 21 (.field 0 1 false) [.t 20] 18,.Iz 22 .neq 21 0 18,
 .P 23 18 22] [3,8,15,16,17,18,19,20,21,22] (.cond (.T 23) [1,2,7] (.s [
 .o 24 (.build [.i 0,.i 0,.af,.i 0] []) [],.Q 1 4 6 24] [] .ret) [] .skip)) (.seq (.r [
 .A 25 2 5 7,.w 26 1,.v 27 2,.o 28 (.uc true) [.t 27,.i 0],.e 29 0 7,
 .e 30 1 29,.k 31 2 30,.H 32 31,.o 33 (.x6 1 8 [.i 0]) [.t 32,.t 32],
 .o 34 (.build [.af,.af,.af,.i 0,.af,.af,.i 0,.i 0,.i 0,.af,.i 0,.af,.af,.i 0,.af,.bool false,.i 0] [(0,5),(5,1),(6,1),(12,1)]) [.T 25,.T 26,.t 28,.T 33],
 .o 35 (.box 17) [.T 34],.v 9 35] (some []) [2,27,28,29,30,32,35]) (.seq (.seq (.uE 9 12) (.g [.v 36 9,
 .e 37 0 7,.e 38 3 37,.k 39 2 38,
 .c 40 34 [.t 36,.t 39,.const .af]] [7,36,37,38,39,40])) (.seq (.s [.v 41 9,.a 42 35 41,
 .o 43 (.un .not) [.t 42]] [41,42] (.cond (.T 43) [] (.g [.v 44 9,.N 45 44,.E 46 7 45,
 .E 47 0 46,.n (.store 1) [.T 47,.i 1]] [44]) [] .skip)) (.seq (.seq (.uE 9 9) (.g [.v 48 9,
 .N 49 48,.E 50 7 49,.L 51 4 50,.Q 1 4 6 51] [9,48])) .ret))))))) }
def s14:aL:={ eP:=14,mode:=.pure,aH:=0,aP:=3,dD:=[],results:=[.tmp 0 false],body:=
 (.s [.m 0 (.b false)] [0] (.s [
 .c 5 10 [.const (.str [102,117,110,99,32,109,97,105,110,40,41,32,123,32,108,101,116,32,120,58,32,105,110,116,32,61,32,114,101,97,100,40,41,59,32,119,104,105,108,101,32,120,32,60,32,51,32,123,32,112,114,105,110,116,32,120,59,32,120,32,61,32,120,32,43,32,49,59,32,125,32,125])],
 .w 4 5,.x 6 0 4,.u 7 1 4,.G 1 0 [.af,.af,.af],
 .G 2 1 [.i 0,.i 0],.Q 0 3 1 6,.S 1 2 2 7] [2,7] (.s [
 .A 8 0 3 1,.o 9 (.lit 1 1 [.i 0] [0]) [.i 1],.c 10 12 [.T 8,.T 9,.i 500],
 .G 3 2 [.i 0,.i 0,.af,.i 0],.Q 2 4 3 10] [1] (.s [.e 11 0 3,
 .k 12 2 11,.I 13 .eql 12 1,.v 14 13,.ey 15 2 3 14,
 .ky 16 2 15 14,.Hy 17 16 14,.Iy 18 .eql 17 2 14,
 .O 19 14 18,.v 20 19,.ey 21 2 3 20,.ky 22 2 21 20,
 .Zy 23 1 22 0 20,.Dy 24 23 20,.Iy 25 .eql 24 1 20,
 .O 26 20 25,.v 27 26,.ey 28 2 3 27,.ky 29 2 28 27,
 .Zy 30 1 29 1 27,.Dy 31 30 27,.Iy 32 .eql 31 2 27,
 .O 33 27 32,.v 34 33,.ey 35 3 3 34,.ky 36 2 35 34,
 .Iy 37 .gtr 36 10 34,.O 38 34 37,
 .v 0 38] [3,11,12,13,14,15,16,17,18,19,20,21,22,23,24,25,26,27,28,29,30,31,32,33,34,35,36,37,38] .ret)))) }
def Td:bN:=
 (.seq (.s [.v 11 5,.v 12 0,.H 13 12,.J 14 .lss 11 13] [11,13] (.w 14 [0,1,5] 0)) (.seq (.block 1 (.seq (.r [.v 17 0,.v 18 5,.X 19 1 17 18,
 .D 20 19,.v 21 1,.v 22 5,.X 23 1 21 22,.D 24 23,
 .J 25 .neq 20 24] (some []) [18,20,22,24]) (.cond (.T 25) [0,1,5] (.s [.m 4 (.b false)] [] .ret) []
 .skip))) (.g [.v 15 5,.I 16 .add 15 1,.v 5 16] [15,16])))
def s17:aL:={ eP:=17,mode:=.pure,aH:=2,aP:=0,dD:=[],results:=[.tmp 4 false],body:=
 (.s [.m 4 (.b false)] [4] (.seq (.s [.v 6 0,.H 7 6,.v 8 1,
 .H 9 8,.J 10 .neq 7 9] [7,9] (.cond (.T 10) [0,1] (.s [.m 4 (.b false)] [] .ret) []
 .skip)) (.seq (.s [.m 5 (.i 0)] [] (.block 0 (.loop Td))) (.s [
 .m 4 (.b true)] [] .ret)))) }
def Te:bN:=
 (.seq (.s [.v 14 5,.v 15 0,.o 16 (.len .str) [.t 15],.J 17 .lss 14 16] [14,15,16] (.w 17 [5] 0)) (.block 1 (.s [.v 19 0,.v 20 5,.q 21 40 19 20,.w 18 21,
 .x 22 0 18,.u 23 1 18,.o 6 (.cq 1 [.i 0,.str [],.i 0,.i 0]) [],.S 1 4 6 22,
 .v 7 23] [19,20,22,23] (.seq (.s [.v 24 7,.I 25 .eql 24 0] [24]
 (.cond (.T 25) [0,4,6,7] (.s [.v 26 5,.o 27 (.build [.i 0,.i 0] [(0,1),(1,1)]) [.i 1,.t 26],
 .o 2 .move [.const .af],.S 0 2 3 27] [5,26,27] .ret) [] .skip)) (.s [.w 28 4,
 .A 29 1 4 6,.o 30 (.lit 4 1 [.i 0,.str [],.i 0,.i 0] [0]) [.t 29],.o 31 (.append 4 40) [.T 28,.T 30],
 .w 4 31] [6,29] (.g [.v 32 0,.v 33 5,.v 34 7,.J 35 .add 33 34,
 .q 36 39 32 35,.v 5 36] [7,32,33,34,35,36]))))))
def s18:aL:={ eP:=18,mode:=.pure,aH:=1,aP:=2,dD:=[],results:=[.tmp 2 true,.box 3 0 2 true],body:=
 (.s [.o 2 .move [.const .af],.G 3 0 [.i 0,.i 0]] [2] (.seq (.s [.v 8 0,
 .o 9 (.len .str) [.t 8],.I 10 .gtr 9 6000] [8,9] (.cond (.T 10) [0] (.s [
 .o 11 (.build [.i 0,.i 0] [(0,1)]) [.i 4],.o 2 .move [.const .af],.S 0 2 3 11] [11] .ret) []
 .skip)) (.s [.o 4 .move [.const .af]] [] (.s [.v 12 0,.c 13 39 [.t 12,.i 0],
 .v 5 13] [12,13] (.seq (.block 0 (.loop Te)) (.s [.w 37 4,.v 38 0,.o 39 (.len .str) [.t 38],
 .o 40 (.build [.i 0,.str [],.i 0,.i 0] [(0,1),(3,1)]) [.i 0,.t 39],
 .o 41 (.lit 4 1 [.i 0,.str [],.i 0,.i 0] [0]) [.t 40],.o 42 (.append 4 40) [.T 37,.T 41],
 .o 43 (.build [.i 0,.i 0] []) [],.w 2 42,.S 0 2 3 43] [0,38,39,40,43] .ret)))))) }
def s19:aL:={ eP:=19,mode:=.jY,aH:=1,aP:=0,dD:=[],results:=[.tmp 2 false],body:=
 (.s [.m 2 (.b false)] [2] (.s [.v 3 0,.N 4 3,.E 5 3 4,
 .E 6 0 5,.D 7 6,.I 8 .eql 7 0,.v 2 8] [0,3,7,8] .ret)) }
def s20:aL:={ eP:=20,mode:=.jY,aH:=1,aP:=1,dD:=[],results:=[.box 2 0 4 true],body:=
 (.s [.o 2 (.cq 0 [.i 0,.str [],.i 0,.i 0]) []] [] (.seq (.seq (.r [.v 3 0,.N 4 3,
 .E 5 1 4,.D 6 5,.I 7 .lss 6 0,.v 8 7,.vz 9 0 8,
 .z 10 .nilCheck [.t 9] 8,.Ez 11 1 10 8,.Dz 12 11 8,.vz 13 0 8,.z 14 .nilCheck [.t 13] 8,
 .Ez 15 0 14 8,.Dz 16 15 8,.Hz 17 16 8,.Jz 18 .geq 12 17 8,
 .P 19 8 18] (some []) [3,6,7,8,9,10,11,12,13,14,15,16,17,18]) (.cond (.T 19) [0] (.s [
 .o 20 (.build [.i 0,.str [],.i 0,.i 0] [(0,1)]) [.i 0],.S 0 4 2 20] [20] .ret) [] .skip)) (.seq
 (.r [.v 21 0,.N 22 21,.E 23 0 22,.D 24 23,.v 25 0,
 .N 26 25,.E 27 1 26,.D 28 27,.X 29 4 24 28,
 .L 30 4 29,.S 0 4 2 30] (some []) [0,21,25,28,30]) .ret))) }
def s21:aL:={ eP:=21,mode:=.jY,aH:=2,aP:=1,dD:=[],results:=[.tmp 4 false],body:=
 (.s [.m 4 (.b false)] [4] (.s [.v 7 0,.a 8 20 7,
 .o 5 (.cq 0 [.i 0,.str [],.i 0,.i 0]) [],.S 0 4 5 8] [7,8] (.s [
 .m 6 (.i 4)] [] (.seq (.s [.v 9 1,.o 10 .index [.t 9,.i 0],
 .o 11 (.td .geq) [.t 10,.const (.int .u8 97)],.v 12 11,.vy 13 1 12,.y 14 .index [.t 13,.i 0] 12,
 .y 15 (.td .leq) [.t 14,.const (.int .u8 122)] 12,.O 16 12 15] [9,10,11,12,13,14,15] (.cond (.T 16) [6] (.g [
 .m 6 (.i 3)] []) [] .skip)) (.s [.v 17 0,.a 18 19 17,.v 19 18,
 .ey 20 0 5 19,.ky 21 0 20 19,.vy 22 6 19,.Jy 23 .eql 21 22 19,
 .O 24 19 23,.v 25 24,.ey 26 1 5 25,.ky 27 0 26 25,
 .vy 28 1 25,.Jy 29 .eql 27 28 25,.O 30 25 29,
 .v 4 30] [0,1,5,6,17,18,19,20,21,22,23,24,25,26,27,28,29,30] .ret))))) }
def s22:aL:={ eP:=22,mode:=.jY,aH:=2,aP:=0,dD:=[],results:=[],body:=
 (.s [.v 4 0,.a 5 19 4] [4] (.cond (.T 5) [] (.g [.v 6 0,.v 7 1,.v 8 0,
 .a 9 20 8,.o 10 (.field 3 1 false) [.t 9],.o 11 (.build [.i 0,.i 0] [(0,1),(1,1)]) [.t 7,.t 10],.N 12 6,
 .E 13 3 12,.R 2 13 11] [0,1,6,7,8,9,10,11]) [0,1] .skip)) }
def Tf:bN:=
 (.seq (.s [.v 13 0,.a 14 19 13,.v 15 14,.vy 16 0 15,
 .y 17 (.call 21) [.t 16,.const (.str [125])] 15,.y 18 (.un .not) [.t 17] 15,.O 19 15 18] [13,14,15,16,17,18]
 (.w 19 [] 0)) (.block 1 (.seq (.s [.v 20 0,.a 21 20 20,.o 22 (.field 0 1 false) [.t 21],
 .I 23 .eql 22 1,.v 24 23,.ey 25 1 3 24,.ky 26 1 25 24,
 .Hy 27 26 24,.Iy 28 .eql 27 8 24,
 .O 29 24 28] [20,21,22,23,24,25,26,27,28] (.cond (.T 29) [] (.s [.v 30 0,
 .c 31 22 [.t 30,.i 4]] [30,31] (.exit 0)) [] .skip)) (.seq (.r [.e 32 1 3,
 .o 33 (.gW 1 false 1 true) [.t 32],.v 34 0,.a 35 24 34,.o 36 (.lit 4 1 [.str [],.str [],.i 0,.i 0] [0]) [.t 35],
 .o 37 (.append 4 48) [.T 33,.T 36],.e 38 1 3,.Q 1 1 38 37] (some []) [32,34,35,38]) (.g [.v 39 0,
 .c 40 25 [.t 39,.const (.str [59])]] [39,40])))))
def s23:aL:={ eP:=23,mode:=.jY,aH:=1,aP:=2,dD:=[],results:=[.box 2 0 3 true],body:=
 (.s [.o 2 (.cq 0 [.str [],.af,.i 0]) []] [] (.s [.v 4 0,.a 5 20 4,
 .o 6 (.field 3 1 false) [.t 5],.o 7 (.build [.str [],.af,.i 0] [(2,1)]) [.t 6],.o 3 (.cq 1 [.str [],.af,.i 0]) [],
 .Q 1 3 3 7] [4,5,6] (.s [.v 8 0,.a 9 41 8,.e 10 0 3,
 .S 1 1 10 9] [8,9,10] (.s [.v 11 0,.c 12 25 [.t 11,.const (.str [123])]] [11,12] (.seq (.block 0
 (.loop Tf)) (.s [.v 41 0,.c 42 25 [.t 41,.const (.str [125])]] [0,41,42] (.s [
 .A 43 1 3 3,.Q 0 3 2 43] [3] .ret))))))) }
def s24:aL:={ eP:=24,mode:=.jY,aH:=1,aP:=2,dD:=[],results:=[.box 2 0 4 true],body:=
 (.s [.o 2 (.cq 0 [.str [],.str [],.i 0,.i 0]) []] [] (.s [.v 4 0,.a 5 20 4,
 .o 6 (.field 3 1 false) [.t 5],.o 7 (.build [.str [],.str [],.i 0,.i 0] [(3,1)]) [.t 6],
 .o 3 (.cq 1 [.str [],.str [],.i 0,.i 0]) [],.S 1 4 3 7] [4,5,6,7] (.s [.v 8 0,
 .a 9 41 8,.e 10 0 3,.S 1 1 10 9] [8,9,10] (.s [.v 11 0,
 .c 12 25 [.t 11,.const (.str [58])]] [11,12] (.s [.v 13 0,.a 14 42 13,.e 15 1 3,
 .S 1 2 15 14] [0,13,14,15] (.s [.A 16 1 4 3,.S 0 4 2 16] [3,16]
 .ret)))))) }
def s25:aL:={ eP:=25,mode:=.jY,aH:=2,aP:=0,dD:=[],results:=[],body:=
 (.seq (.s [.v 4 0,.v 5 1,.q 6 21 4 5,.o 7 (.un .not) [.t 6]] [1,4,5,6] (.cond (.T 7) [] (.s [.v 8 0,.c 9 22 [.t 8,.i 2]] [0,8,9] .ret) [] .skip)) (.g [.v 10 0,
 .N 11 10,.E 12 1 11,.D 13 12,.I 14 .add 13 1,
 .N 15 10,.E 16 1 15,.R 1 16 14] [0,10,13,14])) }
def Tg:bN:=
 (.seq (.s [.v 13 0,.a 14 19 13,.v 15 14,.vy 16 0 15,
 .y 17 (.call 21) [.t 16,.const (.str [41])] 15,.y 18 (.un .not) [.t 17] 15,.O 19 15 18] [13,14,15,16,17,18]
 (.w 19 [] 0)) (.block 1 (.seq (.s [.v 20 0,.a 21 20 20,.o 22 (.field 0 1 false) [.t 21],
 .I 23 .eql 22 1,.v 24 23,.ey 25 1 3 24,.ky 26 1 25 24,
 .Hy 27 26 24,.Iy 28 .eql 27 6 24,
 .O 29 24 28] [20,21,22,23,24,25,26,27,28] (.cond (.T 29) [] (.s [.v 30 0,
 .c 31 22 [.t 30,.i 4]] [30,31] (.exit 0)) [] .skip)) (.seq (.r [.e 32 1 3,
 .o 33 (.gW 1 false 1 true) [.t 32],.v 34 0,.a 35 24 34,.o 36 (.lit 4 1 [.str [],.str [],.i 0,.i 0] [0]) [.t 35],
 .o 37 (.append 4 48) [.T 33,.T 36],.e 38 1 3,.Q 1 1 38 37] (some []) [32,34,35,38]) (.s [.v 39 0,
 .c 40 21 [.t 39,.const (.str [41])],.o 41 (.un .not) [.t 40]] [39,40] (.cond (.T 41) [] (.s [.v 42 0,
 .c 43 25 [.t 42,.const (.str [44])]] [42,43] (.s [.v 44 0,.c 45 21 [.t 44,.const (.str [41])]] [44]
 (.cond (.T 45) [] (.g [.v 46 0,.c 47 22 [.t 46,.i 2]] [46,47]) [] .skip))) [] .skip))))))
def s26:aL:={ eP:=26,mode:=.jY,aH:=1,aP:=2,dD:=[],results:=[.box 2 0 7 true],body:=
 (.s [.o 2 (.cq 0 [.str [],.af,.bool false,.str [],.i 0,.af,.i 0]) []] [] (.s [.v 4 0,
 .a 5 20 4,.o 6 (.field 3 1 false) [.t 5],.o 7 (.build [.str [],.af,.bool false,.str [],.i 0,.af,.i 0] [(6,1)]) [.t 6],
 .o 3 (.cq 1 [.str [],.af,.bool false,.str [],.i 0,.af,.i 0]) [],.Q 1 7 3 7] [4,5,6] (.s [
 .v 8 0,.a 9 41 8,.e 10 0 3,.S 1 1 10 9] [8,9,10] (.s [.v 11 0,
 .c 12 25 [.t 11,.const (.str [40])]] [11,12] (.seq (.block 0 (.loop Tg)) (.s [.v 48 0,
 .c 49 25 [.t 48,.const (.str [41])]] [48,49] (.seq (.s [.v 50 0,.c 51 21 [.t 50,.const (.str [58])]] [50]
 (.cond (.T 51) [] (.s [.v 52 0,.N 53 52,.E 54 1 53,.D 55 54,
 .I 56 .add 55 1,.N 57 52,.E 58 1 57,.R 1 58 56] [52,55,56] (.s [.e 59 2 3,.n (.j9 1 1) [.t 59,.b true]] [59] (.g [.v 60 0,.a 61 42 60,
 .e 62 3 3,.S 1 2 62 61] [60,61,62]))) [] .skip)) (.s [.v 63 0,.a 64 43 63,
 .e 65 5 3,.Q 1 1 65 64] [0,63,65] (.s [.A 66 1 7 3,
 .Q 0 7 2 66] [3] .ret))))))))) }
def Th:bN:=
 (.s [.J 29 .lss 28 27] [] (.seq (.w 29 [26,27,28] 0) (.seq (.block 1 (.s [
 .Y 30 3 26 28,.L 31 3 30,.o 8 (.cq 5 [.str [],.af,.i 0]) [],
 .Q 5 3 8 31] [] (.r [.v 32 6,.v 33 6,.N 34 33,.E 35 4 34,
 .o 36 (.load false 1 true) [.T 35],.e 37 0 8,.k 38 5 37,.o 39 (.lit 1 1 [.str []] [0]) [.t 38],
 .o 40 (.append 1 16) [.T 36,.T 39],.N 41 32,.E 42 4 41,.n (.store 1) [.T 42,.T 40]] (some []) [8,32,33,37,38])))
 (.g [.I 43 .add 28 1,.v 28 43] [43]))))
def Ti:bN:=
 (.s [.J 50 .lss 49 48] [] (.seq (.w 50 [4,6,47,48,49] 2) (.seq (.block 3 (.s [
 .v 51 49,.Y 52 7 47 49,.L 53 7 52,
 .o 11 (.cq 7 [.str [],.af,.bool false,.str [],.i 0,.af,.i 0]) [],.v 10 51,.Q 7 7 11 53] [51]
 (.seq (.r [.e 54 4 9,.o 55 (.gW 6 false 1 true) [.t 54],.v 56 6,.A 57 7 7 11,
 .e 58 2 4,.k 59 3 58,.v 60 10,.X 61 6 59 60,
 .L 62 6 61,.c 63 45 [.t 56,.T 57,.T 62],.o 64 (.lit 3 1 [.af,.af,.i 0] [0]) [.T 63],
 .o 65 (.append 3 56) [.T 55,.T 64],.e 66 4 9,.Q 6 1 66 65] (some []) [10,11,54,56,58,60,66]) (.s [
 .v 67 6,.a 68 46 67] [67] (.cond (.T 68) [4,9,47,48,49] (.seq (.r [
 .o 69 (.build [.af,.af,.af,.i 0,.af] []) [],.v 70 6,.N 71 70,.E 72 12 71,
 .L 73 2 72,.Q 1 5 2 69,.S 2 2 3 73] (some []) [6,70,73]) .ret) [] .skip))))) (.g [
 .I 74 .add 49 1,.v 49 74] [74]))))
def s27:aL:={ eP:=27,mode:=.pure,aH:=1,aP:=8,dD:=[],results:=[.box 2 1 5 true,.box 3 2 2 true],body:=
 (.s [.B 1 0 3 0,.G 2 1 [.af,.af,.af,.i 0,.af],
 .G 3 2 [.i 0,.i 0]] [] (.s [.A 13 0 3 1,.c 14 44 [.T 13],.w 12 14,
 .x 15 0 12,.u 16 1 12,.G 4 3 [.af,.af,.af,.i 0],.G 5 4 [.i 0,.i 0],
 .Q 3 4 4 15,.S 4 2 5 16] [16] (.seq (.s [.e 17 0 5,
 .k 18 4 17,.I 19 .neq 18 0] [17,18] (.cond (.T 19) [1,4] (.seq (.r [
 .o 20 (.build [.af,.af,.af,.i 0,.af] []) [],.A 21 4 2 5,.Q 1 5 2 20,
 .S 2 2 3 21] (some []) [5,21]) .ret) [5] .skip)) (.s [.A 22 3 4 4,
 .o 23 (.build [.af,.af,.af,.i 0,.af,.str [],.af,.bool false,.i 0,.i 0,.i 0,.af,.i 0,.i 0] [(0,4)]) [.T 22],
 .o 24 (.box 14) [.T 23],.v 6 24] [24] (.seq (.s [.e 25 0 1,.k 26 0 25,
 .h 27 26,.m 28 (.i 0)] [25] (.block 0 (.loop Th))) (.s [.A 44 3 4 4,
 .o 45 (.build [.af,.af,.af,.i 0,.af] [(0,4)]) [.T 44],.G 9 6 [.af,.af,.af,.i 0,.af],
 .Q 6 5 9 45] [] (.seq (.s [.e 46 2 1,.k 47 0 46,.h 48 47,
 .m 49 (.i 0)] [1,46] (.block 2 (.loop Ti))) (.s [.A 75 6 5 9,
 .o 76 (.build [.i 0,.i 0] []) [],.Q 1 5 2 75,.S 2 2 3 76] [9,76] .ret)))))))) }
def Tj:bN:=
 (.s [.J 40 .lss 39 38] [] (.seq (.w 40 [38,39] 2) (.seq (.block 3 (.s [
 .v 41 39,.v 8 41] [41] (.g [.v 42 7,.v 43 8,.X 44 1 42 43,
 .n (.store 1) [.T 44,.b true]] [8,43]))) (.g [.I 45 .add 39 1,.v 39 45] [45]))))
def Tl:bN:=
 (.s [.J 23 .lss 22 21] [] (.seq (.w 23 [3,20,21,22] 0) (.seq (.block 1 (.s [
 .v 24 22,.Y 25 3 20 22,.L 26 3 25,.G 6 4 [.af,.af,.i 0],
 .v 5 24,.Q 4 3 6 26] [24] (.s [.e 27 0 6,.k 28 4 27,
 .H 29 28,.o 30 (.nW 1 1 [.bool false] true) [.t 29,.t 29],.w 7 30] [27,29] (.seq (.s [
 .e 31 0 3,.e 32 2 31,.k 33 2 32,.v 34 5,.X 35 6 33 34,
 .E 36 1 35,.D 37 36,.H 38 37,.m 39 (.i 0)] [5,31,32,34] (.block 2
 (.loop Tj))) (.s [.o 46 (.build [.i 0,.i 0] []) [],.o 47 (.box 2) [.t 46],.v 9 47] [46,47] (.s [
 .v 48 9,.e 49 1 6,.k 50 4 49,.w 51 7,
 .c 52 47 [.t 48,.T 50,.T 51]] [6,48,49,52] (.s [.v 53 9,.N 54 53,.E 55 0 54,
 .E 56 0 55,.D 57 56,.I 58 .neq 57 0] [53,57] (.cond (.T 58) [3,20,21,22]
 (.s [.v 59 9,.N 60 59,.E 61 0 60,.L 62 2 61,
 .S 1 2 2 62] [9,59,62] .ret) [9] .skip)))))))) (.g [.I 63 .add 22 1,
 .v 22 63] [63]))))
def s28:aL:={ eP:=28,mode:=.pure,aH:=1,aP:=5,dD:=[],results:=[.box 2 1 2 true],body:=
 (.s [.B 1 0 3 0,.G 2 1 [.i 0,.i 0]] [] (.s [.A 11 0 3 1,
 .c 12 27 [.T 11],.w 10 12,.x 13 0 10,.u 14 1 10,
 .G 3 2 [.af,.af,.af,.i 0,.af],.G 4 3 [.i 0,.i 0],.Q 2 5 3 13,
 .S 3 2 4 14] [1,14] (.seq (.s [.e 15 0 4,.k 16 3 15,
 .I 17 .neq 16 0] [15,16] (.cond (.T 17) [3] (.s [.A 18 3 2 4,
 .S 1 2 2 18] [4,18] .ret) [4] .skip)) (.seq (.s [.e 19 4 3,.k 20 2 19,
 .h 21 20,.m 22 (.i 0)] [19] (.block 0 (.loop Tl))) (.s [
 .o 64 (.build [.i 0,.i 0] []) [],.S 1 2 2 64] [64] .ret))))) }
def s29:aL:={ eP:=29,mode:=.yK,aH:=0,aP:=0,dD:=[],results:=[.tmp 0 false],body:=
 (.s [.o 0 .move [.const .dV]] [0] (.s [.o 1 (.build [.af] []) [],.o 2 (.box 1) [.T 1],.v 0 2] [2]
 .ret)) }
def s30:aL:={ eP:=30,mode:=.yK,aH:=3,aP:=0,dD:=[],results:=[.tmp 6 false],body:=
 (.s [.m 6 (.i 0)] [6] (.seq (.s [.v 8 0,.N 9 8,.E 10 9 9,
 .D 11 10,.I 12 .geq 11 40] [8,11] (.cond (.T 12) [1,2] (.s [.v 13 0,
 .c 14 48 [.t 13,.i 6]] [0,13,14] (.s [.m 6 (.i 0)] [] .ret)) [] .skip)) (.s [
 .v 15 0,.N 16 15,.E 17 9 16,.D 18 17,
 .I 19 .add 18 1,.N 20 15,.E 21 9 20,.R 1 21 19] [15,18,19] (.s [.v 22 0,.N 23 22,.E 24 0 23,.E 25 4 24,.D 26 25,
 .v 27 1,.X 28 3 26 27,.E 29 0 28,.D 30 29,.H 31 30,
 .o 32 (.nW 1 8 [.i 0] true) [.t 31,.t 31],.o 33 (.build [.af,.i 0,.bool false] [(0,1)]) [.T 32],.o 34 (.box 3) [.T 33],
 .v 7 34] [22,27,31,34] (.s [.v 35 7,.N 36 35,.E 37 0 36,
 .D 38 37,.w 39 2,.o 40 (.copy 1) [.T 38,.T 39]] [35,40] (.s [.v 41 0,.v 42 7,
 .v 43 0,.N 44 43,.E 45 0 44,.E 46 4 45,.D 47 46,
 .v 48 1,.X 49 3 47 48,.E 50 1 49,.D 51 50,
 .c 52 49 [.t 41,.t 42,.T 51]] [1,41,42,43,48,52] (.s [.v 53 0,.N 54 53,.E 55 9 54,
 .D 56 55,.I 57 .sub 56 1,.N 58 53,.E 59 9 58,
 .R 1 59 57] [0,53,56,57] (.s [.v 60 7,.N 61 60,.E 62 1 61,
 .D 63 62,.v 6 63] [7,60,63] .ret)))))))) }
def s31:aL:={ eP:=31,mode:=.jY,aH:=1,aP:=0,dD:=[],results:=[.tmp 2 false],body:=
 (.s [.m 2 (.b false)] [2] (.s [.v 3 0,.N 4 3,.E 5 10 4,
 .E 6 0 5,.D 7 6,.I 8 .neq 7 0,.v 2 8] [0,3,7,8] .ret)) }
def Tm:bN:=
 (.seq (.s [.v 22 7,.e 23 2 1,.k 24 0 23,.H 25 24,
 .J 26 .lss 22 25] [22,23,25] (.w 26 [1,4,7] 0)) (.seq (.block 1 (.seq (.r [
 .A 29 3 4 4,.A 30 0 3 1,.c 31 51 [.T 30],.e 32 2 4,
 .k 33 3 32,.v 34 7,.X 35 6 33 34,.L 36 6 35,
 .o 37 (.build [.af,.af,.af,.i 0,.af,.str [],.af,.bool false,.i 0,.i 0,.i 0,.af,.i 0,.i 0] [(0,4),(4,1),(5,6)]) [.T 29,.T 31,.T 36],
 .o 38 (.box 14) [.T 37],.v 8 38] (some []) [32,34,38]) (.s [.v 39 8,.e 40 2 4,
 .k 41 3 40,.v 42 7,.X 43 6 41 42,.E 44 1 43,
 .D 45 44,.o 46 (.append 4 40) [.const .af,.T 45],.N 47 39,.E 48 11 47,
 .n (.store 1) [.T 48,.T 46]] [39,40,42] (.s [.v 49 8,.e 50 2 1,.k 51 0 50,
 .v 52 7,.X 53 7 51 52,.E 54 5 53,.D 55 54,.p 56 52 49 55,
 .w 9 56] [49,50,52] (.seq (.s [.v 57 8,.a 58 53 57,.o 59 (.un .not) [.t 58]] [57,58]
 (.cond (.T 59) [1,4,6,7,9] (.seq (.r [.o 60 (.build [.af,.af,.af,.i 0,.af] []) [],.v 61 8,.N 62 61,
 .E 63 12 62,.L 64 2 63,.Q 1 5 2 60,.S 2 2 3 64] (some []) [8,61,64]) .ret) []
 .skip)) (.r [.e 65 4 6,.o 66 (.gW 5 false 1 true) [.t 65],.v 67 8,.N 68 67,
 .E 69 11 68,.D 70 69,.w 71 9,.e 72 2 1,.k 73 0 72,
 .v 74 7,.X 75 7 73 74,.E 76 6 75,.D 77 76,
 .o 78 (.build [.af,.af,.i 0] [(0,1),(1,1),(2,1)]) [.T 70,.T 71,.t 77],.o 79 (.lit 3 1 [.af,.af,.i 0] [0]) [.T 78],
 .o 80 (.append 3 56) [.T 66,.T 79],.e 81 4 6,.Q 5 1 81 80] (some []) [8,65,67,72,74,77,81])))))) (.g [
 .v 27 7,.I 28 .add 27 1,.v 7 28] [27,28])))
def s32:aL:={ eP:=32,mode:=.pure,aH:=1,aP:=6,dD:=[],results:=[.box 2 1 5 true,.box 3 2 2 true],body:=
 (.s [.B 1 0 3 0,.G 2 1 [.af,.af,.af,.i 0,.af],
 .G 3 2 [.i 0,.i 0]] [] (.s [.A 11 0 3 1,.c 12 50 [.T 11],.w 10 12,
 .x 13 0 10,.u 14 1 10,.G 4 3 [.af,.af,.af,.i 0],.G 5 4 [.i 0,.i 0],
 .Q 3 4 4 13,.S 4 2 5 14] [14] (.seq (.s [.e 15 0 5,
 .k 16 4 15,.I 17 .neq 16 0] [15,16] (.cond (.T 17) [1,4] (.seq (.r [
 .o 18 (.build [.af,.af,.af,.i 0,.af] []) [],.A 19 4 2 5,.Q 1 5 2 18,
 .S 2 2 3 19] (some []) [5,19]) .ret) [5] .skip)) (.s [.A 20 3 4 4,
 .o 21 (.build [.af,.af,.af,.i 0,.af] [(0,4)]) [.T 20],.G 6 5 [.af,.af,.af,.i 0,.af],
 .Q 5 5 6 21] [] (.seq (.s [.m 7 (.i 0)] [] (.block 0 (.loop Tm))) (.s [
 .A 82 5 5 6,.o 83 (.build [.i 0,.i 0] []) [],.Q 1 5 2 82,
 .S 2 2 3 83] [6,83] .ret)))))) }
def Tn:bN:=
 (.seq (.s [.v 34 7,.e 35 0 3,.e 36 2 35,.k 37 2 36,
 .v 38 5,.X 39 6 37 38,.E 40 1 39,.D 41 40,.H 42 41,
 .J 43 .lss 34 42] [34,35,36,38,42] (.w 43 [7] 2)) (.seq (.block 3 (.g [.v 46 6,
 .N 47 46,.E 48 0 47,.D 49 48,.v 50 7,.X 51 1 49 50,
 .n (.store 1) [.T 51,.b true]] [46,50])) (.g [.v 44 7,.I 45 .add 44 1,
 .v 7 45] [44,45])))
def To:bN:=
 (.seq (.s [.v 17 5,.e 18 4 3,.k 19 2 18,.H 20 19,
 .J 21 .lss 17 20] [17,18,20] (.w 21 [3,5] 0)) (.seq (.block 1 (.s [.e 24 4 3,
 .k 25 2 24,.v 26 5,.X 27 3 25 26,.E 28 0 27,
 .D 29 28,.H 30 29,.o 31 (.nW 1 1 [.bool false] true) [.t 30,.t 30],
 .o 32 (.build [.af,.i 0,.i 0] [(0,1)]) [.T 31],.o 33 (.box 3) [.T 32],.v 6 33] [24,26,30,33] (.seq (.s [
 .m 7 (.i 0)] [] (.block 2 (.loop Tn))) (.s [.v 52 6,.e 53 4 3,
 .k 54 2 53,.v 55 5,.X 56 3 54 55,.E 57 1 56,
 .D 58 57,.p 59 54 52 58] [52,53,55,59] (.s [.v 60 6,.N 61 60,
 .E 62 1 61,.E 63 0 62,.D 64 63,.I 65 .neq 64 0] [60,64]
 (.cond (.T 65) [3,5] (.s [.v 66 6,.N 67 66,.E 68 1 67,.L 69 2 68,
 .S 1 2 2 69] [6,66,69] .ret) [6] .skip)))))) (.g [.v 22 5,.I 23 .add 22 1,
 .v 5 23] [22,23])))
def s33:aL:={ eP:=33,mode:=.pure,aH:=1,aP:=4,dD:=[],results:=[.box 2 1 2 true],body:=
 (.s [.B 1 0 3 0,.G 2 1 [.i 0,.i 0]] [] (.s [.A 9 0 3 1,
 .c 10 32 [.T 9],.w 8 10,.x 11 0 8,.u 12 1 8,
 .G 3 2 [.af,.af,.af,.i 0,.af],.G 4 3 [.i 0,.i 0],.Q 2 5 3 11,
 .S 3 2 4 12] [1,12] (.seq (.s [.e 13 0 4,.k 14 3 13,
 .I 15 .neq 14 0] [13,14] (.cond (.T 15) [3] (.s [.A 16 3 2 4,
 .S 1 2 2 16] [4,16] .ret) [4] .skip)) (.seq (.s [.m 5 (.i 0)] [] (.block 0 (.loop To)))
 (.s [.o 70 (.build [.i 0,.i 0] []) [],.S 1 2 2 70] [70] .ret))))) }
def s34:aL:={ eP:=34,mode:=.yK,aH:=3,aP:=0,dD:=[],results:=[.tmp 6 false],body:=
 (.s [.m 6 (.i 0)] [6] (.seq (.s [.v 9 0,.N 10 9,.E 11 13 10,
 .D 12 11,.I 13 .geq 12 40] [9,12] (.cond (.T 13) [1,2] (.s [.v 14 0,
 .c 15 55 [.t 14,.i 6]] [0,14,15] (.s [.m 6 (.i 0)] [] .ret)) [] .skip)) (.s [
 .v 16 0,.N 17 16,.E 18 14 17,.D 19 18,.w 7 19] [16] (.seq
 (.r [.v 20 0,.v 21 2,.o 22 (.gu 1 8) [.const .af,.T 21],.v 23 0,.N 24 23,
 .E 25 0 24,.E 26 4 25,.D 27 26,.v 28 1,.X 29 3 27 28,
 .E 30 0 29,.D 31 30,.H 32 31,.v 33 2,.H 34 33,
 .J 35 .sub 32 34,.o 36 (.pQ 1 8 [.i 0]) [.T 22,.t 35],.N 37 20,.E 38 14 37,
 .n (.store 1) [.T 38,.T 36]] (some [(7,2),(9,2),(11,2),(12,2),(14,2)]) [2,20,23,28,32,34,35]) (.s [.v 39 0,.N 40 39,
 .E 41 13 40,.D 42 41,.I 43 .add 42 1,.N 44 39,
 .E 45 13 44,.R 1 45 43] [39,42,43] (.s [.v 46 0,.N 47 46,
 .E 48 15 47,.n (.store 1) [.T 48,.b false]] [46] (.s [.v 49 0,.N 50 49,
 .E 51 16 50,.n (.store 1) [.T 51,.i 0]] [49] (.s [.v 52 0,.v 53 0,
 .N 54 53,.E 55 0 54,.E 56 4 55,.D 57 56,.v 58 1,
 .X 59 3 57 58,.E 60 1 59,.D 61 60,.p 62 56 52 61] [1,52,53,58,62]
 (.s [.v 63 0,.N 64 63,.E 65 16 64,.D 66 65,
 .v 8 66] [63,66] (.s [.v 67 0,.N 68 67,.E 69 15 68,
 .n (.store 1) [.T 69,.b false]] [67] (.s [.v 70 0,.N 71 70,.E 72 16 71,
 .n (.store 1) [.T 72,.i 0]] [70] (.s [.v 73 0,.N 74 73,.E 75 13 74,
 .D 76 75,.I 77 .sub 76 1,.N 78 73,.E 79 13 78,
 .R 1 79 77] [73,76,77] (.s [.v 80 0,.w 81 7,.N 82 80,.E 83 14 82,
 .n (.store 1) [.T 83,.T 81]] [0,80] (.s [.v 84 8,.v 6 84] [8,84] .ret)))))))))))))) }
def s35:aL:={ eP:=35,mode:=.jY,aH:=1,aP:=0,dD:=[],results:=[.tmp 2 false],body:=
 (.s [.m 2 (.b false)] [2] (.s [.v 3 0,.N 4 3,.E 5 7 4,
 .E 6 0 5,.D 7 6,.I 8 .neq 7 0,.v 2 8] [0,3,7,8] .ret)) }
def Tp:bN:=
 (.seq (.s [.v 49 1,.v 50 0,.o 51 (.len .str) [.t 50],.J 52 .lss 49 51,.v 53 52,
 .vy 54 0 53,.vy 55 1 53,.y 56 .index [.t 54,.t 55] 53,.y 57 (.td .neq) [.t 56,.const (.int .u8 10)] 53,
 .O 58 53 57] [49,50,51,52,53,54,55,56,57] (.w 58 [] 3)) (.block 4 (.g [
 .v 59 1,.I 60 .add 59 1,.v 1 60] [59,60])))
def Tq:bN:=
 (.seq (.s [.v 5 1,.v 6 0,.o 7 (.len .str) [.t 6],.J 8 .lss 5 7] [5,6,7] (.w 8 [0] 0)) (.block 1 (.block 2 (.s [.v 11 0,.v 12 1,.o 13 .index [.t 11,.t 12],
 .o 14 (.td .eql) [.t 13,.const (.int .u8 32)],.v 15 14,.vz 16 0 15,.vz 17 1 15,.z 18 .index [.t 16,.t 17] 15,
 .z 19 (.td .eql) [.t 18,.const (.int .u8 9)] 15,.P 20 15 19,.v 21 20,.vz 22 0 21,
 .vz 23 1 21,.z 24 .index [.t 22,.t 23] 21,.z 25 (.td .eql) [.t 24,.const (.int .u8 10)] 21,.P 26 21 25,
 .v 27 26,.vz 28 0 27,.vz 29 1 27,.z 30 .index [.t 28,.t 29] 27,.z 31 (.td .eql) [.t 30,.const (.int .u8 13)] 27,
 .P 32 27 31,.v 10 32] [11,12,13,14,15,16,17,18,19,20,21,22,23,24,25,26,27,28,29,30,31,32]
 (.cond (.T 10) [] (.g [.v 33 1,.I 34 .add 33 1,.v 1 34] [33,34]) [] (.s [
 .v 36 0,.o 37 (.len .str) [.t 36],.v 38 1,.J 39 .sub 37 38,.I 40 .geq 39 2,
 .v 41 40,.vy 42 0 41,.vy 43 1 41,.vy 44 1 41,.Iy 45 .add 44 2 41,
 .y 46 (.slice true true true false 0) [.t 42,.t 43,.t 45] 41,.y 47 (.td .eql) [.t 46,.const (.str [47,47])] 41,
 .O 48 41 47,.v 35 48] [36,37,38,39,40,41,42,43,44,45,46,47,48] (.cond (.T 35) [] (.block 3
 (.loop Tp)) [0] (.s [.v 9 1,.v 4 9] [1,9] .ret))))))))
def s39:aL:={ eP:=39,mode:=.pure,aH:=2,aP:=0,dD:=[],results:=[.tmp 4 false],body:=
 (.s [.m 4 (.i 0)] [4] (.seq (.block 0 (.loop Tq)) (.s [.v 61 1,
 .v 4 61] [1,61] .ret))) }
def MF:aL:={ eP:=40,mode:=.pure,aH:=2,aP:=1,dD:=[],results:=[.box 4 0 4 true,.tmp 5 false],body:=
 (.s [.o 4 (.cq 0 [.i 0,.str [],.i 0,.i 0]) [],.m 5 (.i 0)] [5] (.seq (.block 0 (.s [.v 13 0,.v 14 1,.o 15 .index [.t 13,.t 14],.a 16 58 15,.v 12 16] [13,14,15,16]
 (.cond (.T 12) [] (.s [.v 17 0,.v 18 1,.c 19 59 [.t 17,.t 18,.b false],
 .v 6 19] [17,18,19] (.s [.v 20 0,.v 21 1,.v 22 1,.v 23 6,
 .J 24 .add 22 23,.o 25 (.slice true true true false 0) [.t 20,.t 21,.t 24],.v 7 25] [0,20,21,22,23,24,25] (.seq (.s [.v 26 7,.a 27 60 26] [26] (.cond (.T 27) [] (.s [.v 28 7,.v 29 1,
 .o 30 (.build [.i 0,.str [],.i 0,.i 0] [(0,1),(1,1),(3,1)]) [.i 3,.t 28,.t 29],.v 31 6,
 .S 0 4 4 30,.v 5 31] [1,6,7,28,29,30,31] .ret) [] .skip)) (.seq (.s [.v 32 7,
 .a 33 61 32] [32] (.cond (.T 33) [] (.s [.v 34 7,.v 35 1,
 .o 36 (.build [.i 0,.str [],.i 0,.i 0] [(0,1),(1,1),(3,1)]) [.i 1,.t 34,.t 35],.v 37 6,
 .S 0 4 4 36,.v 5 37] [1,6,7,34,35,36,37] .ret) [1,6,7] .skip)) (.s [
 .o 38 (.build [.i 0,.str [],.i 0,.i 0] []) [],.S 0 4 4 38,.m 5 (.i 0)] [38] .ret))))) []
 (.s [.v 40 0,.v 41 1,.o 42 .index [.t 40,.t 41],.a 43 62 42,.v 39 43] [40,41,42,43]
 (.cond (.T 39) [] (.s [.v 44 0,.v 45 1,.c 46 59 [.t 44,.t 45,.b true],
 .v 8 46] [44,45,46] (.s [.v 48 0,.v 49 1,.v 50 1,.v 51 8,
 .J 52 .add 50 51,.o 53 (.slice true true true false 0) [.t 48,.t 49,.t 52],.a 54 63 53,.w 47 54,
 .x 55 0 47,.u 56 1 47,.v 9 55,.v 10 56] [48,49,50,51,52,53,55,56] (.seq (.s [
 .v 57 10,.o 58 (.un .not) [.t 57],.v 59 58,.vz 60 8 59,.Iz 61 .gtr 60 1 59,
 .vz 62 61 59,.vy 63 0 62,.vy 64 1 62,.y 65 .index [.t 63,.t 64] 62,.y 66 (.td .eql) [.t 65,.const (.int .u8 48)] 62,
 .z 67 .pick [.t 62,.t 66,.b false] 59,.P 68 59 67,.v 69 68,.vz 70 1 69,
 .vz 71 8 69,.Jz 72 .add 70 71 69,.vz 73 0 69,.z 74 (.len .str) [.t 73] 69,.Jz 75 .lss 72 74 69,
 .vz 76 75 69,.vy 77 0 76,.vy 78 1 76,.vy 79 8 76,.Jy 80 .add 78 79 76,
 .y 81 .index [.t 77,.t 80] 76,.y 82 (.call 58) [.t 81] 76,.z 83 .pick [.t 76,.t 82,.b false] 69,
 .P 84 69 83] [0,10,57,58,59,60,61,62,63,64,65,66,67,68,69,70,71,72,73,74,75,76,77,78,79,80,81,82,83]
 (.cond (.T 84) [1,8,9] (.s [.o 85 (.build [.i 0,.str [],.i 0,.i 0] []) [],.S 0 4 4 85,
 .m 5 (.i 0)] [85] .ret) [] .skip)) (.s [.v 86 9,.v 87 1,
 .o 88 (.build [.i 0,.str [],.i 0,.i 0] [(0,1),(2,1),(3,1)]) [.i 2,.t 86,.t 87],.v 89 8,
 .S 0 4 4 88,.v 5 89] [1,8,9,86,87,88,89] .ret)))) [] .skip))))) (.s [.v 90 0,.v 91 1,
 .q 92 64 90 91,.v 11 92] [0,90,91,92] (.seq (.s [.v 93 11,
 .o 94 (.td .eql) [.t 93,.const (.str [])]] [93] (.cond (.T 94) [1,11] (.s [
 .o 95 (.build [.i 0,.str [],.i 0,.i 0] []) [],.S 0 4 4 95,.m 5 (.i 0)] [95] .ret) []
 .skip)) (.s [.v 96 11,.v 97 1,
 .o 98 (.build [.i 0,.str [],.i 0,.i 0] [(0,1),(1,1),(3,1)]) [.i 4,.t 96,.t 97],.v 99 11,
 .o 100 (.len .str) [.t 99],.S 0 4 4 98,.v 5 100] [1,11,96,97,98,99,100] .ret))))) }
def s41:aL:={ eP:=41,mode:=.jY,aH:=1,aP:=1,dD:=[],results:=[.tmp 2 false],body:=
 (.s [.o 2 .move [.const (.str [])]] [2] (.s [.v 4 0,.a 5 20 4,
 .o 3 (.cq 0 [.i 0,.str [],.i 0,.i 0]) [],.S 0 4 3 5] [4,5] (.seq (.s [.v 6 0,
 .a 7 19 6,.v 8 7,.ey 9 0 3 8,.ky 10 0 9 8,
 .Iy 11 .eql 10 1 8,.O 12 8 11] [6,7,8,9,10,11] (.cond (.T 12) [] (.s [
 .v 13 0,.N 14 13,.E 15 1 14,.D 16 15,
 .I 17 .add 16 1,.N 18 13,.E 19 1 18,.R 1 19 17] [0,13,16,17] (.s [.e 20 1 3,.k 21 0 20,.v 2 21] [3,20,21] .ret)) [3] .skip)) (.s [
 .v 22 0,.c 23 22 [.t 22,.i 2]] [0,22,23] (.s [.o 2 .move [.const (.str [])]] [] .ret))))) }
def Tr:bN:=
 (.seq (.s [.v 6 0,.c 7 21 [.t 6,.const (.str [91])]] [6] (.w 7 [] 0)) (.block 1 (.seq (.s [.v 8 3,.I 9 .eql 8 3] [8] (.cond (.T 9) [3] (.s [.v 10 0,
 .c 11 22 [.t 10,.i 4]] [0,10,11] (.s [.o 12 (.build [.str [],.i 0] []) [],
 .S 0 2 2 12] [12] .ret)) [] .skip)) (.s [.v 13 0,.N 14 13,.E 15 1 14,
 .D 16 15,.I 17 .add 16 1,.N 18 13,.E 19 1 18,
 .R 1 19 17] [13,16,17] (.g [.v 20 3,.I 21 .add 20 1,
 .v 3 21] [20,21])))))
def IC:bN:=
 (.seq (.s [.v 43 5,.v 44 3,.J 45 .lss 43 44] [43,44] (.w 45 [0,3,5] 3))
 (.seq (.block 4 (.g [.v 48 0,.c 49 25 [.t 48,.const (.str [93])]] [48,49])) (.g [.v 46 5,
 .I 47 .add 46 1,.v 5 47] [46,47])))
def s42:aL:={ eP:=42,mode:=.jY,aH:=1,aP:=2,dD:=[],results:=[.box 2 0 2 true],body:=
 (.s [.o 2 (.cq 0 [.str [],.i 0]) []] [] (.s [.m 3 (.i 0)] [] (.seq (.block 0
 (.loop Tr)) (.s [.v 22 3,.o 23 (.build [.str [],.i 0] [(1,1)]) [.t 22],.o 4 (.cq 1 [.str [],.i 0]) [],
 .S 1 2 4 23] [22,23] (.seq (.block 2 (.seq (.s [.v 28 0,.c 29 21 [.t 28,.const (.str [105,110,116])],
 .v 27 29] [28,29] (.cond (.t 27) [] .skip [27] (.g [.v 30 0,.c 31 21 [.t 30,.const (.str [98,111,111,108])],
 .v 27 31] [30,31]))) (.cond (.T 27) [] (.s [.v 32 0,.a 33 20 32,.o 34 (.field 1 1 false) [.t 33],
 .e 35 0 4,.S 1 1 35 34] [32,33,34,35] (.g [.v 36 0,.N 37 36,
 .E 38 1 37,.D 39 38,.I 40 .add 39 1,.N 41 36,
 .E 42 1 41,.R 1 42 40] [36,39,40])) [] (.g [.v 24 0,.a 25 41 24,
 .e 26 0 4,.S 1 1 26 25] [24,25,26])))) (.seq (.s [.m 5 (.i 0)] [] (.block 3
 (.loop IC))) (.s [.A 50 1 2 4,.S 0 2 2 50] [4,50] .ret))))))) }
def Ts:bN:=
 (.seq (.s [.v 6 0,.a 7 19 6,.v 8 7,.vy 9 0 8,.y 10 (.call 21) [.t 9,.const (.str [125])] 8,
 .y 11 (.un .not) [.t 10] 8,.O 12 8 11] [6,7,8,9,10,11] (.w 12 [] 0)) (.block 1 (.g [
 .w 13 3,.v 14 0,.a 15 66 14,
 .o 16 (.lit 9 1 [.i 0,.str [],.str [],.i 0,.af,.af,.af,.i 0,.i 0] [0]) [.T 15],.o 17 (.append 9 136) [.T 13,.T 16],
 .w 3 17] [14])))
def s43:aL:={ eP:=43,mode:=.jY,aH:=1,aP:=0,dD:=[],results:=[.tmp 2 true],body:=
 (.s [.o 2 .move [.const .af]] [2] (.s [.o 3 .move [.const .af]] [] (.s [.v 4 0,
 .c 5 65 [.t 4,.const (.str [123])]] [4,5] (.seq (.block 0 (.loop Ts)) (.s [.v 18 0,
 .c 19 67 [.t 18,.const (.str [125])]] [0,18,19] (.s [.w 20 3,.w 2 20] [] .ret)))))) }
def s44:aL:={ eP:=44,mode:=.pure,aH:=1,aP:=4,dD:=[],results:=[.box 2 1 4 true,.box 3 2 2 true],body:=
 (.s [.B 1 0 3 0,.G 2 1 [.af,.af,.af,.i 0],.G 3 2 [.i 0,.i 0]] []
 (.s [.o 6 (.build [.af,.i 0,.i 0] []) [],.o 7 (.box 3) [.T 6],.v 4 7] [7] (.seq (.r [.v 8 4,
 .e 9 0 1,.k 10 0 9,.p 11 68 8 10,.v 12 4,.e 13 1 1,
 .k 14 0 13,.p 15 69 12 14,.v 16 4,.e 17 2 1,
 .k 18 0 17,.p 19 70 16 18,
 .o 20 (.build [.af,.af,.af,.i 0] [(0,1),(1,1),(2,1)]) [.T 11,.T 15,.T 19],.G 5 3 [.af,.af,.af,.i 0],
 .Q 3 4 5 20] (some []) [1,8,9,12,13,16,17]) (.s [.e 21 2 5,.k 22 3 21,
 .c 23 71 [.T 22,.const (.fn 72 [] [])],.e 24 3 5,.S 3 1 24 23] [21,23,24] (.seq (.s [
 .e 25 3 5,.k 26 3 25,.I 27 .lss 26 0] [25,26] (.cond (.T 27) []
 (.g [.v 28 4,.c 29 73 [.t 28,.i 0]] [28,29]) [] .skip)) (.seq (.s [.v 30 4,
 .N 31 30,.E 32 1 31,.E 33 0 32,.D 34 33,
 .I 35 .neq 34 0] [30,34] (.cond (.T 35) [5] (.seq (.r [.o 36 (.build [.af,.af,.af,.i 0] []) [],
 .v 37 4,.N 38 37,.E 39 1 38,.L 40 2 39,.Q 1 4 2 36,
 .S 2 2 3 40] (some []) [4,37,40]) .ret) [4] .skip)) (.s [.A 41 3 4 5,
 .o 42 (.build [.i 0,.i 0] []) [],.Q 1 4 2 41,.S 2 2 3 42] [5,42] .ret))))))) }
def s45:aL:={ eP:=45,mode:=.jY,aH:=3,aP:=3,dD:=[],results:=[.box 6 2 3 true],body:=
 (.s [.B 4 0 7 1,.B 5 1 6 2,.G 6 2 [.af,.af,.i 0]] [] (.seq (.r [
 .v 8 0,.v 9 0,.A 10 1 6 5,.e 11 1 5,.k 12 1 11,
 .c 13 74 [.T 12],.N 14 8,.E 15 5 14,.n (.store 6) [.T 15,.T 10],.N 16 9,
 .E 17 11 16,.n (.store 1) [.T 17,.T 13]] (some []) [5,8,9,11]) (.s [.v 18 0,.e 19 5 4,
 .k 20 0 19,.p 21 75 18 20,.w 7 21] [18,19] (.seq (.r [.v 22 0,
 .N 23 22,.E 24 11 23,.D 25 24,.w 26 7,.e 27 6 4,
 .k 28 0 27,.o 29 (.build [.af,.af,.i 0] [(0,1),(1,1),(2,1)]) [.T 25,.T 26,.t 28],
 .Q 2 3 6 29] (some []) [0,4,22,27,28]) .ret)))) }
def s46:aL:={ eP:=46,mode:=.jY,aH:=1,aP:=0,dD:=[],results:=[.tmp 2 false],body:=
 (.s [.m 2 (.b false)] [2] (.s [.v 3 0,.N 4 3,.E 5 12 4,
 .E 6 0 5,.D 7 6,.I 8 .neq 7 0,.v 2 8] [0,3,7,8] .ret)) }
def Tt:bN:=
 (.s [.J 14 .lss 13 12] [] (.seq (.w 14 [0,11,12,13] 0) (.seq (.block 1 (.s [
 .Y 15 9 11 13,.L 16 9 15,
 .o 8 (.cq 0 [.i 0,.str [],.str [],.i 0,.af,.af,.af,.i 0,.i 0]) [],.Q 0 9 8 16] [] (.g [
 .v 17 0,.A 18 0 9 8,.w 19 2,.c 20 77 [.t 17,.T 18,.T 19],.w 2 20] [8,17])))
 (.g [.I 21 .add 13 1,.v 13 21] [21]))))
def s47:aL:={ eP:=47,mode:=.yK,aH:=3,aP:=1,dD:=[],results:=[.tmp 6 true],body:=
 (.s [.o 6 .move [.const .af]] [6] (.s [.w 9 2,.c 10 76 [.T 9],.w 2 10] [] (.seq (.s [.w 11 1,.h 12 11,.m 13 (.i 0)] [] (.block 0 (.loop Tt))) (.s [
 .w 22 2,.w 6 22] [] .ret)))) }
def s48:aL:={ eP:=48,mode:=.jY,aH:=2,aP:=0,dD:=[],results:=[],body:=
 (.s [.v 4 1,.I 5 .neq 4 0,.v 6 5,.vy 7 0 6,.y 8 (.call 31) [.t 7] 6,
 .y 9 (.un .not) [.t 8] 6,.O 10 6 9] [4,5,6,7,8,9] (.cond (.T 10) [] (.g [.v 11 0,
 .v 12 0,.v 13 1,.N 14 11,.E 15 10 14,.E 16 0 15,
 .n (.store 1) [.T 16,.i 2],.N 17 12,.E 18 10 17,.E 19 1 18,
 .R 1 19 13] [0,1,11,12,13]) [0,1] .skip)) }
def Tu:bN:=
 (.s [.J 11 .lss 10 9] [] (.seq (.w 11 [0,1,8,9,10] 0) (.seq (.block 1 (.s [
 .Y 12 9 8 10,.L 13 9 12,
 .o 7 (.cq 0 [.i 0,.str [],.str [],.i 0,.af,.af,.af,.i 0,.i 0]) [],.Q 0 9 7 13] [] (.seq
 (.s [.v 14 1,.N 15 14,.E 16 2 15,.D 17 16,.v 18 17,
 .vz 19 0 18,.z 20 (.call 31) [.t 19] 18,.P 21 18 20] [14,17,18,19,20] (.cond (.T 21) [0,1,7,8,9,10]
 .ret [] .skip)) (.g [.v 22 0,.v 23 1,.A 24 0 9 7,
 .c 25 78 [.t 22,.t 23,.T 24]] [7,22,23,25])))) (.g [.I 26 .add 10 1,.v 10 26] [26]))))
def s49:aL:={ eP:=49,mode:=.yK,aH:=3,aP:=1,dD:=[],results:=[],body:=
 (.s [.w 8 2,.h 9 8,.m 10 (.i 0)] [] (.block 0 (.loop Tu))) }
def Tv:bN:=
 (.seq (.s [.v 29 6,.v 30 5,.J 31 .lss 29 30] [29,30] (.w 31 [6] 2)) (.seq
 (.block 3 (.seq (.r [.v 34 4,.v 35 6,.X 36 1 34 35,.D 37 36,
 .v 38 4,.v 39 5,.X 40 1 38 39,.D 41 40,
 .J 42 .eql 37 41] (some []) [35,37,39,41]) (.cond (.T 42) [4,6] (.s [.o 43 (.build [.af,.af,.af,.i 0] []) [],
 .e 44 0 1,.k 45 0 44,.v 46 5,.X 47 3 45 46,.E 48 2 47,
 .D 49 48,.a 50 79 49,.Q 1 4 2 43,.S 2 2 3 50] [1,5,44,46,49,50] .ret) []
 .skip))) (.g [.v 32 6,.I 33 .add 32 1,.v 6 33] [32,33])))
def Tw:bN:=
 (.seq (.s [.v 23 5,.v 24 4,.H 25 24,.J 26 .lss 23 25] [23,25] (.w 26 [5] 0)) (.seq (.block 1 (.s [.m 6 (.i 0)] [] (.block 2 (.loop Tv)))) (.g [.v 27 5,
 .I 28 .add 27 1,.v 5 28] [27,28])))
def Tx:bN:=
 (.seq (.s [.v 52 8,.e 53 0 1,.k 54 0 53,.H 55 54,
 .J 56 .lss 52 55] [52,53,55] (.w 56 [8] 4)) (.seq (.block 5 (.s [.v 60 4,
 .e 61 0 1,.k 62 0 61,.v 63 8,.X 64 3 62 63,.E 65 1 64,
 .D 66 65,.c 67 80 [.T 60,.T 66],.w 59 67,.x 68 0 59,.u 69 1 59,
 .G 10 4 [.i 0,.i 0],.w 9 68,.S 4 2 10 69] [61,63,69] (.seq (.s [
 .e 70 0 10,.k 71 4 70,.I 72 .neq 71 0] [70,71] (.cond (.T 72) [1,4,7,8,9]
 (.seq (.r [.o 73 (.build [.af,.af,.af,.i 0] []) [],.A 74 4 2 10,.Q 1 4 2 73,
 .S 2 2 3 74] (some []) [10,74]) .ret) [10] .skip)) (.r [.e 75 0 7,.o 76 (.gW 3 false 1 true) [.t 75],
 .v 77 4,.v 78 8,.X 79 1 77 78,.D 80 79,.w 81 9,
 .o 82 (.build [.str [],.af] [(0,1),(1,1)]) [.t 80,.T 81],.o 83 (.lit 2 1 [.str [],.af] [0]) [.T 82],.o 84 (.append 2 40) [.T 76,.T 83],
 .e 85 0 7,.Q 3 1 85 84] (some []) [75,78,80,85])))) (.g [.v 57 8,
 .I 58 .add 57 1,.v 8 58] [57,58])))
def Tz:bN:=
 (.seq (.s [.v 112 15,.v 113 13,.J 114 .lss 112 113] [112,113] (.w 114 [15] 8)) (.seq (.block 9 (.seq (.r [.e 117 2 1,.k 118 0 117,.v 119 15,
 .X 120 7 118 119,.E 121 0 120,.D 122 121,.e 123 0 14,
 .k 124 6 123,.J 125 .eql 122 124] (some []) [117,119,122,123,124]) (.cond (.T 125) [1,4,7,13,15] (.s [
 .o 126 (.build [.af,.af,.af,.i 0] []) [],.e 127 6 14,.k 128 6 127,.a 129 79 128,
 .Q 1 4 2 126,.S 2 2 3 129] [14,127,128,129] .ret) [] .skip))) (.g [.v 115 15,
 .I 116 .add 115 1,.v 15 116] [115,116])))
def TA:bN:=
 (.seq (.s [.v 100 13,.e 101 2 1,.k 102 0 101,.H 103 102,
 .J 104 .lss 100 103] [100,101,103] (.w 104 [1,4,13] 6)) (.seq (.block 7 (.s [
 .e 107 2 1,.k 108 0 107,.v 109 13,.X 110 7 108 109,
 .L 111 7 110,.o 14 (.cq 6 [.str [],.af,.bool false,.str [],.i 0,.af,.i 0]) [],
 .Q 6 7 14 111] [107,109] (.seq (.s [.m 15 (.i 0)] [] (.block 8 (.loop Tz))) (.s [.v 131 4,.e 132 1 14,.k 133 6 132,.c 134 80 [.T 131,.T 133],
 .w 130 134,.x 135 0 130,.u 136 1 130,.G 17 7 [.i 0,.i 0],.w 16 135,
 .S 7 2 17 136] [132,136] (.seq (.s [.e 137 0 17,.k 138 7 137,
 .I 139 .neq 138 0] [137,138] (.cond (.T 139) [1,4,7,13,14,16] (.seq (.r [
 .o 140 (.build [.af,.af,.af,.i 0] []) [],.A 141 7 2 17,.Q 1 4 2 140,
 .S 2 2 3 141] (some []) [17,141]) .ret) [17] .skip)) (.s [.e 142 0 14,
 .k 143 6 142,.v 144 16,.e 145 2 14,.k 146 6 145,
 .o 147 (.build [.str [],.af,.bool false,.i 0,.i 0,.i 0] [(0,1),(1,1),(2,1)]) [.t 143,.T 144,.t 146],
 .o 18 (.cq 8 [.str [],.af,.bool false,.i 0,.i 0,.i 0]) [],.Q 8 6 18 147] [142,143,145,146] (.seq (.s [.e 148 2 14,.k 149 6 148] [148] (.cond (.T 149) [] (.s [.v 151 4,
 .e 152 3 14,.A 153 6 2 152,.c 154 81 [.T 151,.t 153],.w 150 154,
 .x 155 0 150,.u 156 1 150,.G 19 9 [.i 0,.i 0,.i 0],.S 9 3 19 155,
 .v 20 156] [152,153,155,156] (.seq (.s [.v 157 20,.o 158 (.un .not) [.t 157]] [20,157]
 (.cond (.T 158) [1,4,7,13,16,18,19] (.s [.o 159 (.build [.af,.af,.af,.i 0] []) [],.e 160 6 14,
 .k 161 6 160,.a 162 79 161,.Q 1 4 2 159,.S 2 2 3 162] [14,160,161,162]
 .ret) [] .skip)) (.g [.A 163 9 3 19,.e 164 3 18,.S 8 3 164 163] [19,163,164]))) []
 .skip)) (.seq (.s [.e 165 0 14,.k 166 6 165,
 .o 167 (.td .eql) [.t 166,.const (.str [109,97,105,110])],.v 168 167,.y 169 .move [.T 16] 168,.Hy 170 169 168,
 .Iy 171 .eql 170 0 168,.O 172 168 171,.v 173 172,
 .ey 174 2 14 173,.ky 175 6 174 173,.y 176 (.un .not) [.t 175] 173,
 .O 177 173 176] [14,16,165,166,167,168,169,170,171,172,173,174,175,176] (.cond (.T 177) [] (.g [
 .v 178 13,.e 179 3 7,.S 3 1 179 178] [178,179]) [] .skip)) (.g [.e 180 2 7,
 .o 181 (.gW 3 false 1 true) [.t 180],.A 182 8 6 18,
 .o 183 (.lit 6 1 [.str [],.af,.bool false,.i 0,.i 0,.i 0] [0]) [.T 182],.o 184 (.append 6 72) [.T 181,.T 183],
 .e 185 2 7,.Q 3 1 185 184] [18,180,185]))))))))) (.g [.v 105 13,
 .I 106 .add 105 1,.v 13 106] [105,106])))
def s50:aL:={ eP:=50,mode:=.pure,aH:=1,aP:=10,dD:=[],results:=[.box 2 1 4 true,.box 3 2 2 true],body:=
 (.s [.B 1 0 3 0,.G 2 1 [.af,.af,.af,.i 0],.G 3 2 [.i 0,.i 0]] []
 (.s [.A 21 0 3 1,.c 22 51 [.T 21],.w 4 22] [] (.seq (.s [
 .m 5 (.i 0)] [] (.block 0 (.loop Tw))) (.s [
 .o 51 (.build [.af,.af,.af,.i 0] [(3,1)]) [.const (.i (-1))],.G 7 3 [.af,.af,.af,.i 0],
 .Q 3 4 7 51] [] (.seq (.s [.m 8 (.i 0)] [] (.block 4 (.loop Tx))) (.s [
 .v 87 4,.e 88 1 1,.k 89 0 88,.c 90 80 [.T 87,.T 89],.w 86 90,
 .x 91 0 86,.u 92 1 86,.G 12 5 [.i 0,.i 0],.w 11 91,
 .S 5 2 12 92] [88,92] (.seq (.s [.e 93 0 12,.k 94 5 93,
 .I 95 .neq 94 0] [93,94] (.cond (.T 95) [1,4,7,11] (.seq (.r [
 .o 96 (.build [.af,.af,.af,.i 0] []) [],.A 97 5 2 12,.Q 1 4 2 96,
 .S 2 2 3 97] (some []) [12,97]) .ret) [12] .skip)) (.s [.w 98 11,.e 99 1 7,
 .Q 3 1 99 98] [99] (.seq (.s [.m 13 (.i 0)] [] (.block 6 (.loop TA))) (.seq (.s [.e 186 3 7,.k 187 3 186,.I 188 .lss 187 0] [186,187]
 (.cond (.T 188) [7] (.s [.o 189 (.build [.af,.af,.af,.i 0] []) [],.c 190 79 [.i 0],
 .Q 1 4 2 189,.S 2 2 3 190] [190] .ret) [] .skip)) (.s [.A 191 3 4 7,
 .o 192 (.build [.i 0,.i 0] []) [],.Q 1 4 2 191,.S 2 2 3 192] [7,192] .ret))))))))))) }
def TB:bN:=
 (.seq (.s [.v 5 4,.e 6 0 1,.k 7 0 6,.H 8 7,
 .J 9 .lss 5 8] [5,6,8] (.w 9 [1,4] 0)) (.seq (.block 1 (.g [.w 12 3,
 .e 13 0 1,.k 14 0 13,.v 15 4,.X 16 3 14 15,.E 17 0 16,
 .D 18 17,.o 19 (.lit 1 1 [.str []] [0]) [.t 18],.o 20 (.append 1 16) [.T 12,.T 19],.w 3 20] [13,15,18]))
 (.g [.v 10 4,.I 11 .add 10 1,.v 4 11] [10,11])))
def s51:aL:={ eP:=51,mode:=.pure,aH:=1,aP:=1,dD:=[],results:=[.tmp 2 true],body:=
 (.s [.B 1 0 3 0,.o 2 .move [.const .af]] [2] (.s [.o 3 .move [.const .af]] [] (.seq (.s [
 .m 4 (.i 0)] [] (.block 0 (.loop TB))) (.s [.w 21 3,.w 2 21] [] .ret)))) }
def ID:bN:=
 (.seq (.s [.v 7 6,.v 8 1,.H 9 8,.J 10 .lss 7 9,.v 11 10,
 .vy 12 0 11,.y 13 (.call 53) [.t 12] 11,.O 14 11 13] [7,9,10,11,12,13] (.w 14 [0,1,6] 0)) (.seq (.block 1 (.g [.w 17 5,.v 18 0,.v 19 1,.v 20 6,.X 21 9 19 20,
 .L 22 9 21,.p 23 82 18 22,
 .o 24 (.lit 9 1 [.i 0,.str [],.str [],.i 0,.af,.af,.af,.i 0,.i 0] [0]) [.T 23],.o 25 (.append 9 136) [.T 17,.T 24],
 .w 5 25] [18,20])) (.g [.v 15 6,.I 16 .add 15 1,.v 6 16] [15,16])))
def s52:aL:={ eP:=52,mode:=.jY,aH:=2,aP:=0,dD:=[],results:=[.tmp 4 true],body:=
 (.s [.o 4 .move [.const .af]] [4] (.s [.o 5 .move [.const .af]] [] (.seq (.s [
 .m 6 (.i 0)] [] (.block 0 (.loop ID))) (.s [.w 26 5,.w 4 26] [] .ret)))) }
def s53:aL:={ eP:=53,mode:=.jY,aH:=1,aP:=0,dD:=[],results:=[.tmp 2 false],body:=
 (.s [.m 2 (.b false)] [2] (.s [.v 3 0,.N 4 3,.E 5 12 4,
 .E 6 0 5,.D 7 6,.I 8 .eql 7 0,.v 2 8] [0,3,7,8] .ret)) }
def MG:bN:=
 (.seq (.s [.v 21 6,.e 22 4 5,.k 23 0 22,.H 24 23,
 .J 25 .lss 21 24] [21,22,24] (.w 25 [6] 2)) (.seq (.block 3 (.g [.v 28 0,
 .e 29 4 5,.k 30 0 29,.v 31 6,.X 32 11 30 31,
 .L 33 11 32,.p 34 83 28 33] [28,29,31,34])) (.g [.v 26 6,
 .I 27 .add 26 1,.v 6 27] [26,27])))
def MH:bN:=
 (.seq (.s [.v 109 10,.v 110 0,.N 111 110,.E 112 0 111,
 .D 113 112,.H 114 113,.J 115 .lss 109 114] [109,110,114] (.w 115 [9,10] 5)) (.seq (.block 6 (.r [.v 118 0,.N 119 118,.E 120 0 119,.D 121 120,
 .v 122 10,.v 123 0,.N 124 123,.E 125 0 124,.D 126 125,
 .v 127 10,.X 128 1 126 127,.D 129 128,.v 130 129,.vy 131 9 130,
 .vy 132 10 130,.y 133 (.indexAddr 1) [.T 131,.t 132] 130,.Dy 134 133 130,
 .O 135 130 134,.X 136 1 121 122,
 .R 1 136 135] (some []) [118,122,123,127,129,130,131,132,133,134,135])) (.g [.v 116 10,
 .I 117 .add 116 1,.v 10 117] [116,117])))
def qH:bN:=
 (.seq (.s [.v 11 4,.v 12 1,.H 13 12,.J 14 .lss 11 13] [11,13] (.w 14 [0,1,4] 0)) (.seq (.block 1 (.s [.v 17 1,.v 18 4,.X 19 9 17 18,
 .L 20 9 19,.o 5 (.cq 0 [.i 0,.str [],.str [],.i 0,.af,.af,.af,.i 0,.i 0]) [],
 .Q 0 9 5 20] [18] (.seq (.s [.m 6 (.i 0)] [] (.block 2 (.loop MG))) (.s [
 .e 35 0 5,.k 36 0 35] [35] (.block 4 (.s [.I 38 .eql 36 1,
 .v 37 38] [38] (.cond (.T 37) [36] (.r [.v 39 0,.N 40 39,.E 41 0 40,
 .D 42 41,.e 43 8 5,.k 44 0 43,.X 45 1 42 44,
 .n (.store 1) [.T 45,.b false]] (some []) [5,39,43,44]) [] (.s [.I 47 .eql 36 2,
 .v 46 47] [47] (.cond (.T 46) [36] (.r [.v 48 0,.N 49 48,.E 50 0 49,
 .D 51 50,.e 52 8 5,.k 53 0 52,.X 54 1 51 53,
 .n (.store 1) [.T 54,.b true]] (some []) [5,48,52,53]) [] (.s [.I 56 .eql 36 3,
 .v 55 56] [56] (.cond (.T 55) [36] (.s [.e 57 8 5,.k 58 0 57,
 .I 59 .geq 58 0] [57,58] (.cond (.T 59) [] (.r [.v 60 0,.N 61 60,
 .E 62 0 61,.D 63 62,.e 64 8 5,.k 65 0 64,
 .X 66 1 63 65,.n (.store 1) [.T 66,.b true]] (some []) [5,60,64,65]) [5] .skip)) [] (.s [
 .I 68 .eql 36 7,.v 67 68] [68] (.cond (.T 67) [5,36] (.g [.v 69 0,
 .a 70 84 69] [69,70]) [] (.s [.I 72 .eql 36 6,.v 71 72] [72]
 (.cond (.T 71) [36] (.s [.v 73 0,.N 74 73,.E 75 0 74,.D 76 75,
 .o 77 (.gu 1 1) [.const .af,.T 76],.w 7 77] [73] (.s [.v 78 0,.e 79 5 5,
 .k 80 0 79,.p 81 54 78 80] [5,78,79,81] (.g [.v 82 0,.w 83 7,
 .N 84 82,.E 85 0 84,.n (.store 1) [.T 85,.T 83]] [82]))) [] (.s [
 .I 87 .eql 36 5,.v 86 87] [36,87] (.cond (.T 86) [] (.s [.v 88 0,
 .N 89 88,.E 90 0 89,.D 91 90,.o 92 (.gu 1 1) [.const .af,.T 91],
 .w 8 92] [88] (.s [.v 93 0,.e 94 5 5,.k 95 0 94,
 .p 96 54 93 95] [93,94,96] (.s [.v 97 0,.N 98 97,.E 99 0 98,
 .D 100 99,.w 9 100] [97] (.s [.v 101 0,.w 102 8,.N 103 101,
 .E 104 0 103,.n (.store 1) [.T 104,.T 102]] [101] (.s [.v 105 0,.e 106 6 5,
 .k 107 0 106,.p 108 54 105 107] [5,105,106,108] (.s [
 .m 10 (.i 0)] [] (.block 5 (.loop MH)))))))) [5] .skip))))))))))))))))) (.g [.v 15 4,
 .I 16 .add 15 1,.v 4 16] [15,16])))
def s54:aL:={ eP:=54,mode:=.yK,aH:=2,aP:=1,dD:=[],results:=[],body:=
 (.s [.m 4 (.i 0)] [] (.block 0 (.loop qH))) }
def s55:aL:={ eP:=55,mode:=.jY,aH:=2,aP:=0,dD:=[],results:=[],body:=
 (.s [.v 4 1,.I 5 .neq 4 0,.v 6 5,.vy 7 0 6,.y 8 (.call 35) [.t 7] 6,
 .y 9 (.un .not) [.t 8] 6,.O 10 6 9] [4,5,6,7,8,9] (.cond (.T 10) [] (.s [.v 11 0,
 .N 12 11,.E 13 7 12,.E 14 0 13,.n (.store 1) [.T 14,.i 2]] [11] (.g [
 .v 15 0,.v 16 1,.N 17 15,.E 18 7 17,.E 19 1 18,
 .R 1 19 16] [0,1,15,16])) [0,1] .skip)) }
def TC:bN:=
 (.seq (.s [.v 5 4,.v 6 1,.H 7 6,.J 8 .lss 5 7,.v 9 8,.vy 10 0 9,
 .y 11 (.call 35) [.t 10] 9,.y 12 (.un .not) [.t 11] 9,.O 13 9 12,.v 14 13,.vy 15 0 14,
 .y 16 .nilCheck [.t 15] 14,.Ey 17 15 16 14,.Dy 18 17 14,.y 19 (.un .not) [.t 18] 14,
 .O 20 14 19] [5,7,8,9,10,11,12,13,14,15,16,17,18,19] (.w 20 [0,1,4] 0)) (.seq (.block 1
 (.g [.v 23 0,.v 24 1,.v 25 4,.X 26 9 24 25,.L 27 9 26,
 .p 28 85 23 27] [23,25,28])) (.g [.v 21 4,.I 22 .add 21 1,
 .v 4 22] [21,22])))
def s56:aL:={ eP:=56,mode:=.yK,aH:=2,aP:=0,dD:=[],results:=[],body:=
 (.s [.m 4 (.i 0)] [] (.block 0 (.loop TC))) }
def s58:aL:={ eP:=58,mode:=.pure,aH:=1,aP:=0,dD:=[],results:=[.tmp 2 false],body:=
 (.s [.m 2 (.b false)] [2] (.s [.v 3 0,.o 4 (.td .geq) [.t 3,.const (.int .u8 97)],
 .v 5 4,.vy 6 0 5,.y 7 (.td .leq) [.t 6,.const (.int .u8 122)] 5,.O 8 5 7,.v 9 8,
 .vz 10 0 9,.z 11 (.td .geq) [.t 10,.const (.int .u8 65)] 9,.vz 12 11 9,.vy 13 0 12,
 .y 14 (.td .leq) [.t 13,.const (.int .u8 90)] 12,.z 15 .pick [.t 12,.t 14,.b false] 9,.P 16 9 15,
 .v 2 16] [0,3,4,5,6,7,8,9,10,11,12,13,14,15,16] .ret)) }
def TD:bN:=
 (.seq (.s [.v 8 1,.v 9 7,.J 10 .add 8 9,.v 11 0,.o 12 (.len .str) [.t 11],
 .J 13 .lss 10 12,.v 14 13,.vy 15 0 14,.vy 16 1 14,.vy 17 7 14,.Jy 18 .add 16 17 14,
 .y 19 .index [.t 15,.t 18] 14,.y 20 (.call 62) [.t 19] 14,.vy 21 20 14,.vz 22 2 21,.z 23 (.un .not) [.t 22] 21,
 .vz 24 23 21,.vy 25 0 24,.vy 26 1 24,.vy 27 7 24,.Jy 28 .add 26 27 24,
 .y 29 .index [.t 25,.t 28] 24,.y 30 (.call 58) [.t 29] 24,.z 31 .pick [.t 24,.t 30,.b false] 21,
 .y 32 .pick [.t 21,.b true,.t 31] 14,
 .O 33 14 32] [8,9,10,11,12,13,14,15,16,17,18,19,20,21,22,23,24,25,26,27,28,29,30,31,32] (.w 33 [0,1,2] 0)) (.block 1 (.g [.v 34 7,.I 35 .add 34 1,.v 7 35] [34,35])))
def s59:aL:={ eP:=59,mode:=.pure,aH:=3,aP:=0,dD:=[],results:=[.tmp 6 false],body:=
 (.s [.m 6 (.i 0)] [6] (.s [.m 7 (.i 0)] [] (.seq (.block 0 (.loop TD))
 (.s [.v 36 7,.v 6 36] [7,36] .ret)))) }
def TE:bN:=
 (.seq (.s [.v 6 4,.v 7 3,.H 8 7,.J 9 .lss 6 8] [6,8] (.w 9 [0,3,4] 0)) (.seq (.block 1 (.s [.v 12 3,.v 13 4,.X 14 1 12 13,.D 15 14,
 .v 16 0,.J 17 .eql 15 16] [13,15,16] (.cond (.T 17) [0,3,4] (.s [.m 2 (.b true)] []
 .ret) [] .skip))) (.g [.v 10 4,.I 11 .add 10 1,.v 4 11] [10,11])))
def s60:aL:={ eP:=60,mode:=.pure,aH:=1,aP:=0,dD:=[],results:=[.tmp 2 false],body:=
 (.s [.m 2 (.b false)] [2] (.s [.c 5 90 [],.w 3 5] [] (.seq (.s [
 .m 4 (.i 0)] [] (.block 0 (.loop TE))) (.s [.m 2 (.b false)] [] .ret)))) }
def TF:bN:=
 (.seq (.s [.v 22 3,.v 23 0,.o 24 (.len .str) [.t 23],.J 25 .lss 22 24] [22,23,24] (.w 25 [0,3] 0)) (.seq (.block 1 (.s [.v 28 0,.v 29 3,.o 30 .index [.t 28,.t 29],.a 31 58 30,
 .o 32 (.un .not) [.t 31],.v 33 32,.vy 34 0 33,.vy 35 3 33,.y 36 .index [.t 34,.t 35] 33,.y 37 (.call 62) [.t 36] 33,
 .y 38 (.un .not) [.t 37] 33,.O 39 33 38] [28,29,30,31,32,33,34,35,36,37,38] (.cond (.T 39) [0,3] (.s [
 .m 2 (.b false)] [] .ret) [] .skip))) (.g [.v 26 3,.I 27 .add 26 1,
 .v 3 27] [26,27])))
def s61:aL:={ eP:=61,mode:=.pure,aH:=1,aP:=0,dD:=[],results:=[.tmp 2 false],body:=
 (.s [.m 2 (.b false)] [2] (.seq (.s [.v 4 0,.o 5 (.len .str) [.t 4],
 .I 6 .lss 5 1,.v 7 6,.vz 8 0 7,.z 9 (.len .str) [.t 8] 7,
 .Iz 10 .gtr 9 8 7,.P 11 7 10,.v 12 11,.vz 13 0 12,
 .z 14 .index [.t 13,.i 0] 12,.z 15 (.call 58) [.t 14] 12,.z 16 (.un .not) [.t 15] 12,.P 17 12 16,
 .v 18 17,.vz 19 0 18,.z 20 (.call 60) [.t 19] 18,
 .P 21 18 20] [4,5,6,7,8,9,10,11,12,13,14,15,16,17,18,19,20] (.cond (.T 21) [0] (.s [
 .m 2 (.b false)] [] .ret) [] .skip)) (.seq (.s [.m 3 (.i 0)] [] (.block 0 (.loop TF)))
 (.s [.m 2 (.b true)] [] .ret)))) }
def s62:aL:={ eP:=62,mode:=.pure,aH:=1,aP:=0,dD:=[],results:=[.tmp 2 false],body:=
 (.s [.m 2 (.b false)] [2] (.s [.v 3 0,.o 4 (.td .geq) [.t 3,.const (.int .u8 48)],
 .v 5 4,.vy 6 0 5,.y 7 (.td .leq) [.t 6,.const (.int .u8 57)] 5,.O 8 5 7,
 .v 2 8] [0,3,4,5,6,7,8] .ret)) }
def TH:bN:=
 (.seq (.s [.v 7 5,.v 8 0,.o 9 (.len .str) [.t 8],.J 10 .lss 7 9] [7,8,9] (.w 10 [0,5] 0)) (.seq (.block 1 (.s [.v 13 0,.v 14 5,.o 15 .index [.t 13,.t 14],
 .o 16 (.td .sub) [.t 15,.const (.int .u8 48)],.o 17 (.conv .i64) [.t 16],.v 6 17] [13,14,15,16,17] (.seq (.s [
 .v 18 4,.v 19 6,.o 20 (.td .sub) [.i 9223372036854775807,.t 19],.I 21 .quo 20 10,
 .J 22 .gtr 18 21] [18,19,20,21] (.cond (.T 22) [0,4,5,6] (.s [.m 2 (.i 0),
 .m 3 (.b false)] [] .ret) [] .skip)) (.g [.v 23 4,.o 24 (.td .mul) [.i 10,.t 23],
 .v 25 6,.J 26 .add 24 25,.v 4 26] [6,23,24,25,26])))) (.g [.v 11 5,
 .I 12 .add 11 1,.v 5 12] [11,12])))
def s63:aL:={ eP:=63,mode:=.pure,aH:=1,aP:=0,dD:=[],results:=[.tmp 2 false,.tmp 3 false],body:=
 (.s [.m 2 (.i 0),.m 3 (.b false)] [2,3] (.s [
 .m 4 (.i 0)] [] (.seq (.s [.m 5 (.i 0)] [] (.block 0 (.loop TH))) (.s [
 .v 27 4,.v 2 27,.m 3 (.b true)] [4,27] .ret)))) }
def TI:bN:=
 (.seq (.s [.v 10 6,.v 11 5,.H 12 11,.J 13 .lss 10 12] [10,12] (.w 13 [5,6] 0)) (.seq (.block 1 (.seq (.r [.v 16 0,.o 17 (.len .str) [.t 16],.v 18 1,.J 19 .sub 17 18,
 .I 20 .geq 19 2,.v 21 20,.vy 22 0 21,.vy 23 1 21,.vy 24 1 21,
 .Iy 25 .add 24 2 21,.y 26 (.slice true true true false 0) [.t 22,.t 23,.t 25] 21,.vy 27 5 21,.vy 28 6 21,
 .y 29 (.indexAddr 1) [.T 27,.t 28] 21,.Dy 30 29 21,.Jy 31 .eql 26 30 21,
 .O 32 21 31] (some []) [16,17,18,19,20,21,22,23,24,25,26,27,28,29,30,31]) (.cond (.T 32) [0,1] (.s [
 .w 33 5,.v 34 6,.X 35 1 33 34,.D 36 35,.v 4 36] [6,34,36] .ret) []
 .skip))) (.g [.v 14 6,.I 15 .add 14 1,.v 6 15] [14,15])))
def TJ:bN:=
 (.seq (.s [.v 37 8,.v 38 7,.o 39 (.len .str) [.t 38],.J 40 .lss 37 39] [37,38,39] (.w 40 [0,1,7,8] 2)) (.seq (.block 3 (.seq (.r [.v 43 0,.v 44 1,.o 45 .index [.t 43,.t 44],.v 46 7,
 .v 47 8,.o 48 .index [.t 46,.t 47],.J 49 .eql 45 48] (some []) [43,44,45,46,47,48]) (.cond (.T 49) [0,1] (.s [
 .v 50 7,.v 51 8,.v 52 8,.I 53 .add 52 1,
 .o 54 (.slice true true true false 0) [.t 50,.t 51,.t 53],.v 4 54] [7,8,50,51,52,53,54] .ret) [] .skip))) (.g [.v 41 8,
 .I 42 .add 41 1,.v 8 42] [41,42])))
def s64:aL:={ eP:=64,mode:=.pure,aH:=2,aP:=0,dD:=[],results:=[.tmp 4 false],body:=
 (.s [.o 4 .move [.const (.str [])]] [4] (.s [
 .o 9 (.lit 1 5 [.str []] [0,1,2,3,4]) [.const (.str [60,61]),.const (.str [61,61]),.const (.str [33,61]),.const (.str [38,38]),.const (.str [124,124])],
 .w 5 9] [] (.seq (.s [.m 6 (.i 0)] [] (.block 0 (.loop TI))) (.s [
 .o 7 .move [.const (.str [123,125,40,41,91,93,59,58,44,46,61,43,45,42,47,37,60,33])]] [] (.seq (.s [
 .m 8 (.i 0)] [] (.block 2 (.loop TJ))) (.s [.o 4 .move [.const (.str [])]] [] .ret)))))) }
def s65:aL:={ eP:=65,mode:=.jY,aH:=2,aP:=0,dD:=[],results:=[],body:=
 (.seq (.s [.v 4 0,.v 5 1,.q 6 21 4 5,.v 7 6,.vy 8 0 7,.y 9 .nilCheck [.t 8] 7,
 .Ey 10 2 9 7,.Dy 11 10 7,.Iy 12 .geq 11 50 7,
 .O 13 7 12] [4,5,6,7,8,9,10,11,12] (.cond (.T 13) [1] (.s [.v 14 0,
 .c 15 22 [.t 14,.i 4]] [0,14,15] .ret) [] .skip)) (.s [.v 16 0,.v 17 1,
 .q 18 25 16 17] [1,16,17,18] (.g [.v 19 0,.N 20 19,.E 21 2 20,
 .D 22 21,.I 23 .add 22 1,.N 24 19,.E 25 2 24,
 .R 1 25 23] [0,19,22,23]))) }
def TK:aL:={ eP:=66,mode:=.jY,aH:=1,aP:=3,dD:=[],results:=[.box 2 0 9 true],body:=
 (.s [.o 2 (.cq 0 [.i 0,.str [],.str [],.i 0,.af,.af,.af,.i 0,.i 0]) []] [] (.s [
 .v 5 0,.a 6 20 5,.o 3 (.cq 1 [.i 0,.str [],.i 0,.i 0]) [],.S 1 4 3 6] [5,6] (.s [.e 7 3 3,.k 8 1 7,
 .o 9 (.build [.i 0,.str [],.str [],.i 0,.af,.af,.af,.i 0,.i 0] [(7,1)]) [.t 8],
 .o 4 (.cq 2 [.i 0,.str [],.str [],.i 0,.af,.af,.af,.i 0,.i 0]) [],.Q 2 9 4 9] [7,8] (.seq
 (.block 0 (.seq (.s [.v 14 0,.c 15 21 [.t 14,.const (.str [118,97,114])],.v 13 15] [14,15] (.cond (.t 13) []
 .skip [13] (.g [.v 16 0,.c 17 21 [.t 16,.const (.str [108,101,116])],.v 13 17] [16,17]))) (.cond (.T 13) [] (.s [.v 18 0,.N 19 18,.E 20 1 19,.D 21 20,
 .I 22 .add 21 1,.N 23 18,.E 24 1 23,.R 1 24 22] [18,21,22] (.s [.e 25 0 4,.n (.j9 2 1) [.t 25,.i 1]] [25] (.s [.v 26 0,
 .a 27 41 26,.e 28 1 4,.S 2 1 28 27] [26,27,28] (.s [.v 29 0,
 .c 30 25 [.t 29,.const (.str [58])]] [29,30] (.s [.v 31 0,.a 32 42 31,.e 33 2 4,
 .S 2 2 33 32] [31,32,33] (.seq (.s [.e 34 1 3,.k 35 1 34,
 .o 36 (.td .eql) [.t 35,.const (.str [108,101,116])]] [3,34,35] (.cond (.T 36) [] (.s [.e 37 0 4,
 .n (.j9 2 1) [.t 37,.i 2]] [37] (.s [.v 38 0,.c 39 25 [.t 38,.const (.str [61])]] [38,39]
 (.g [.v 40 0,.c 41 91 [.t 40,.i 0],
 .o 42 (.lit 11 1 [.i 0,.i 0,.str [],.str [],.i 0,.af,.i 0,.i 0,.i 0,.i 0,.i 0] [0]) [.T 41],
 .e 43 4 4,.Q 2 1 43 42] [40,43]))) [] .skip)) (.g [.v 44 0,
 .c 45 25 [.t 44,.const (.str [59])]] [0,44,45]))))))) [3] (.s [.v 47 0,.c 48 21 [.t 47,.const (.str [105,102])],
 .v 46 48] [47,48] (.cond (.T 46) [] (.s [.v 49 0,.N 50 49,.E 51 1 50,
 .D 52 51,.I 53 .add 52 1,.N 54 49,.E 55 1 54,
 .R 1 55 53] [49,52,53] (.s [.e 56 0 4,.n (.j9 2 1) [.t 56,.i 5]] [56] (.s [.v 57 0,.c 58 91 [.t 57,.i 0],
 .o 59 (.lit 11 1 [.i 0,.i 0,.str [],.str [],.i 0,.af,.i 0,.i 0,.i 0,.i 0,.i 0] [0]) [.T 58],
 .e 60 4 4,.Q 2 1 60 59] [57,60] (.s [.v 61 0,.a 62 43 61,
 .e 63 5 4,.Q 2 1 63 62] [61,63] (.s [.v 64 0,
 .c 65 21 [.t 64,.const (.str [101,108,115,101])]] [64] (.cond (.T 65) [] (.s [.v 66 0,.N 67 66,
 .E 68 1 67,.D 69 68,.I 70 .add 69 1,.N 71 66,
 .E 72 1 71,.R 1 72 70] [66,69,70] (.g [.v 73 0,.a 74 43 73,
 .e 75 6 4,.Q 2 1 75 74] [0,73,75])) [0] .skip)))))) [] (.s [.v 77 0,
 .c 78 21 [.t 77,.const (.str [119,104,105,108,101])],.v 76 78] [77,78] (.cond (.T 76) [] (.s [.v 79 0,
 .N 80 79,.E 81 1 80,.D 82 81,.I 83 .add 82 1,
 .N 84 79,.E 85 1 84,.R 1 85 83] [79,82,83] (.s [.e 86 0 4,
 .n (.j9 2 1) [.t 86,.i 6]] [86] (.s [.v 87 0,.c 88 91 [.t 87,.i 0],
 .o 89 (.lit 11 1 [.i 0,.i 0,.str [],.str [],.i 0,.af,.i 0,.i 0,.i 0,.i 0,.i 0] [0]) [.T 88],
 .e 90 4 4,.Q 2 1 90 89] [87,90] (.g [.v 91 0,.a 92 43 91,
 .e 93 5 4,.Q 2 1 93 92] [0,91,93])))) [] (.s [.v 95 0,
 .c 96 21 [.t 95,.const (.str [114,101,116,117,114,110])],.v 94 96] [95,96] (.cond (.T 94) [] (.s [.v 97 0,
 .N 98 97,.E 99 1 98,.D 100 99,.I 101 .add 100 1,
 .N 102 97,.E 103 1 102,.R 1 103 101] [97,100,101] (.s [.e 104 0 4,
 .n (.j9 2 1) [.t 104,.i 7]] [104] (.seq (.s [.v 105 0,.c 106 21 [.t 105,.const (.str [59])],
 .o 107 (.un .not) [.t 106]] [105,106] (.cond (.T 107) [] (.g [.v 108 0,.c 109 91 [.t 108,.i 0],
 .o 110 (.lit 11 1 [.i 0,.i 0,.str [],.str [],.i 0,.af,.i 0,.i 0,.i 0,.i 0,.i 0] [0]) [.T 109],
 .e 111 4 4,.Q 2 1 111 110] [108,111]) [] .skip)) (.g [.v 112 0,
 .c 113 25 [.t 112,.const (.str [59])]] [0,112,113])))) [] (.s [.v 115 0,
 .c 116 21 [.t 115,.const (.str [112,114,105,110,116])],.v 114 116] [115,116] (.cond (.T 114) [] (.s [
 .v 117 0,.N 118 117,.E 119 1 118,.D 120 119,
 .I 121 .add 120 1,.N 122 117,.E 123 1 122,
 .R 1 123 121] [117,120,121] (.s [.e 124 0 4,.n (.j9 2 1) [.t 124,.i 8]] [124]
 (.s [.v 125 0,.c 126 91 [.t 125,.i 0],
 .o 127 (.lit 11 1 [.i 0,.i 0,.str [],.str [],.i 0,.af,.i 0,.i 0,.i 0,.i 0,.i 0] [0]) [.T 126],
 .e 128 4 4,.Q 2 1 128 127] [125,128] (.g [.v 129 0,
 .c 130 25 [.t 129,.const (.str [59])]] [0,129,130])))) [] (.s [.v 10 0,.A 11 2 9 4,
 .p 12 92 10 11,.Q 0 9 2 12] [0,4,10] .ret)))))))))))) (.s [.A 131 2 9 4,
 .Q 0 9 2 131] [4] .ret))))) }
def s67:aL:={ eP:=67,mode:=.jY,aH:=2,aP:=0,dD:=[],results:=[],body:=
 (.s [.v 4 0,.v 5 1,.q 6 25 4 5] [1,4,5,6] (.g [.v 7 0,.N 8 7,
 .E 9 2 8,.D 10 9,.I 11 .sub 10 1,.N 12 7,
 .E 13 2 12,.R 1 13 11] [0,7,10,11])) }
def TM:bN:=
 (.s [.J 13 .lss 12 11] [] (.seq (.w 13 [10,11,12] 0) (.seq (.block 1 (.s [
 .Y 14 3 10 12,.L 15 3 14,.o 6 (.cq 0 [.str [],.af,.i 0]) [],
 .Q 0 3 6 15] [] (.seq (.seq (.r [.v 16 0,.N 17 16,.E 18 0 17,
 .D 19 18,.e 20 0 6,.k 21 0 20,
 .c 22 93 [.T 19,.t 21]] (some []) [16,20,21]) (.cond (.T 22) [] (.g [.v 23 0,.e 24 2 6,
 .k 25 0 24,.q 26 73 23 25] [23,24,25,26]) [] .skip)) (.r [.v 27 0,.v 28 0,
 .N 29 28,.E 30 0 29,.o 31 (.load false 1 true) [.T 30],.e 32 0 6,
 .k 33 0 32,.o 34 (.lit 1 1 [.str []] [0]) [.t 33],.o 35 (.append 1 16) [.T 31,.T 34],.N 36 27,
 .E 37 0 36,.n (.store 1) [.T 37,.T 35]] (some []) [6,27,28,32,33])))) (.g [.I 38 .add 12 1,
 .v 12 38] [38]))))
def TN:bN:=
 (.s [.J 42 .lss 41 40] [] (.seq (.w 42 [0,39,40,41] 2) (.seq (.block 3 (.s [
 .Y 43 3 39 41,.L 44 3 43,.o 9 (.cq 1 [.str [],.af,.i 0]) [],
 .Q 1 3 9 44] [] (.r [.w 45 7,.e 46 0 9,.k 47 1 46,
 .v 48 0,.e 49 1 9,.k 50 1 49,.p 51 69 48 50,
 .o 52 (.build [.str [],.af] [(0,1),(1,1)]) [.t 47,.T 51],.o 53 (.lit 2 1 [.str [],.af] [0]) [.T 52],.o 54 (.append 2 40) [.T 45,.T 53],
 .w 7 54] (some []) [9,46,47,48,49]))) (.g [.I 55 .add 41 1,.v 41 55] [55]))))
def s68:aL:={ eP:=68,mode:=.jY,aH:=2,aP:=2,dD:=[],results:=[.tmp 4 true],body:=
 (.s [.o 4 .move [.const .af]] [4] (.seq (.s [.v 10 1,.h 11 10,
 .m 12 (.i 0)] [] (.block 0 (.loop TM))) (.s [.o 7 .move [.const .af]] [] (.seq (.s [
 .w 39 1,.h 40 39,.m 41 (.i 0)] [] (.block 2 (.loop TN))) (.s [.w 56 7,
 .w 4 56] [] .ret))))) }
def TO:bN:=
 (.s [.J 15 .lss 14 13] [] (.seq (.w 15 [0,6,12,13,14] 0) (.seq (.block 1 (.s [
 .Y 16 4 12 14,.L 17 4 16,.o 8 (.cq 0 [.str [],.str [],.i 0,.i 0]) [],
 .S 0 4 8 17] [17] (.seq (.s [.v 19 6,.e 20 0 8,.k 21 0 20,
 .o 22 (.lookup .str (.agg []) true) [.t 19,.t 21],.w 18 22,.x 23 0 18,.u 24 1 18,.G 9 1 [],
 .S 1 0 9 23,.v 10 24] [9,19,20,21,23,24] (.s [.v 25 10] [10] (.cond (.T 25) [] (.g [
 .v 26 0,.e 27 3 8,.k 28 0 27,.q 29 73 26 28] [26,27,28,29]) [] .skip))) (.s [.v 30 6,.e 31 0 8,.k 32 0 31,.o 33 (.build [] []) [],
 .n (.mapUpdate .str) [.t 30,.t 32,.t 33]] [30,31,32,33] (.r [.w 34 5,.e 35 0 8,
 .k 36 0 35,.v 37 0,.e 38 1 8,.A 39 0 2 38,.e 40 3 8,
 .k 41 0 40,.c 42 94 [.t 37,.t 39,.t 41],
 .o 43 (.build [.str [],.i 0,.i 0,.i 0] [(0,1),(1,3)]) [.t 36,.t 42],
 .o 44 (.lit 4 1 [.str [],.i 0,.i 0,.i 0] [0]) [.t 43],.o 45 (.append 4 40) [.T 34,.T 44],
 .w 5 45] (some []) [8,35,36,37,38,39,40,41,42,43]))))) (.g [.I 46 .add 14 1,
 .v 14 46] [46]))))
def s69:aL:={ eP:=69,mode:=.jY,aH:=2,aP:=2,dD:=[],results:=[.tmp 4 true],body:=
 (.s [.o 4 .move [.const .af]] [4] (.s [.o 5 .move [.const .af]] [] (.s [.o 11 .makeMap [],
 .v 6 11] [11] (.seq (.s [.w 12 1,.h 13 12,.m 14 (.i 0)] [] (.block 0
 (.loop TO))) (.s [.w 47 5,.w 4 47] [] .ret))))) }
def TP:bN:=
 (.s [.J 16 .lss 15 14] [] (.seq (.w 16 [0,6,13,14,15] 0) (.seq (.block 1 (.s [
 .Y 17 7 13 15,.L 18 7 17,
 .o 8 (.cq 0 [.str [],.af,.bool false,.str [],.i 0,.af,.i 0]) [],.Q 0 7 8 18] [] (.seq (.s [
 .v 20 6,.e 21 0 8,.k 22 0 21,.o 23 (.lookup .str (.agg []) true) [.t 20,.t 22],
 .w 19 23,.x 24 0 19,.u 25 1 19,.G 9 1 [],.S 1 0 9 24,
 .v 10 25] [9,20,21,22,24,25] (.s [.v 26 10] [10] (.cond (.T 26) [] (.g [.v 27 0,
 .e 28 6 8,.k 29 0 28,.q 30 73 27 29] [27,28,29,30]) [] .skip))) (.s [
 .v 31 6,.e 32 0 8,.k 33 0 32,.o 34 (.build [] []) [],
 .n (.mapUpdate .str) [.t 31,.t 33,.t 34]] [31,32,33,34] (.seq (.r [.e 35 0 8,.k 36 0 35,
 .v 37 0,.e 38 1 8,.k 39 0 38,.p 40 69 37 39,.e 41 2 8,
 .k 42 0 41,
 .o 43 (.build [.str [],.af,.bool false,.i 0,.i 0,.i 0] [(0,1),(1,1),(2,1)]) [.t 36,.T 40,.t 42],
 .o 11 (.cq 2 [.str [],.af,.bool false,.i 0,.i 0,.i 0]) [],.Q 2 6 11 43] (some []) [35,36,37,38,41,42]) (.seq
 (.s [.e 44 2 8,.k 45 0 44] [44] (.cond (.T 45) [] (.g [.v 46 0,
 .e 47 3 8,.A 48 0 2 47,.e 49 6 8,.k 50 0 49,
 .c 51 94 [.t 46,.t 48,.t 50],.e 52 3 11,.S 2 3 52 51] [8,46,47,48,49,50,51,52]) [8] .skip)) (.g [
 .w 53 5,.A 54 2 6 11,.o 55 (.lit 6 1 [.str [],.af,.bool false,.i 0,.i 0,.i 0] [0]) [.T 54],
 .o 56 (.append 6 72) [.T 53,.T 55],.w 5 56] [11]))))))) (.g [.I 57 .add 15 1,
 .v 15 57] [57]))))
def s70:aL:={ eP:=70,mode:=.jY,aH:=2,aP:=3,dD:=[],results:=[.tmp 4 true],body:=
 (.s [.o 4 .move [.const .af]] [4] (.s [.o 5 .move [.const .af]] [] (.s [.o 12 .makeMap [],
 .v 6 12] [12] (.seq (.s [.w 13 1,.h 14 13,.m 15 (.i 0)] [] (.block 0
 (.loop TP))) (.s [.w 58 5,.w 4 58] [] .ret))))) }
def MI:bN:=
 (.s [.J 9 .lss 8 7] [] (.seq (.w 9 [0,1,7,8] 0) (.seq (.block 1 (.s [.v 10 8,
 .v 5 10] [10] (.s [.v 11 1,.v 12 0,.v 13 5,.X 14 6 12 13,
 .L 15 6 14,.o 16 .r7 [.t 11,.T 15]] [11,13] (.cond (.T 16) [0,1,7,8] (.s [.v 17 5,
 .v 4 17] [5,17] .ret) [5] .skip)))) (.g [.I 18 .add 8 1,.v 8 18] [18]))))
def s71:aL:={ eP:=71,mode:=.jY,aH:=2,aP:=0,dD:=[],results:=[.tmp 4 false],body:=
 (.s [.m 4 (.i 0)] [4] (.seq (.s [.v 6 0,.H 7 6,
 .m 8 (.i 0)] [] (.block 0 (.loop MI))) (.s [.o 4 .move [.const (.i (-1))]] [] .ret))) }
def s72:aL:={ eP:=72,mode:=.pure,aH:=1,aP:=1,dD:=[],results:=[.tmp 2 false],body:=
 (.s [.B 1 0 6 0,.m 2 (.b false)] [2] (.s [.e 3 0 1,
 .k 4 0 3,.o 5 (.td .eql) [.t 4,.const (.str [109,97,105,110])],.v 6 5,.ey 7 1 1 6,
 .ky 8 0 7 6,.Hy 9 8 6,.Iy 10 .eql 9 0 6,
 .O 11 6 10,.v 12 11,.ey 13 2 1 12,.ky 14 0 13 12,
 .y 15 (.un .not) [.t 14] 12,.O 16 12 15,.v 2 16] [1,3,4,5,6,7,8,9,10,11,12,13,14,15,16] .ret)) }
def s73:aL:={ eP:=73,mode:=.jY,aH:=2,aP:=0,dD:=[],results:=[],body:=
 (.s [.v 4 0,.N 5 4,.E 6 1 5,.E 7 0 6,.D 8 7,
 .I 9 .eql 8 0] [4,8] (.cond (.T 9) [] (.g [.v 10 0,.v 11 1,
 .o 12 (.build [.i 0,.i 0] [(0,1),(1,1)]) [.i 3,.t 11],.N 13 10,.E 14 1 13,
 .R 2 14 12] [0,1,10,11,12]) [0,1] .skip)) }
def s74:aL:={ eP:=74,mode:=.pure,aH:=1,aP:=0,dD:=[],results:=[.tmp 2 true],body:=
 (.s [.o 2 .move [.const .af]] [2] (.seq (.s [.v 3 0,.o 4 (.ua .sl false) [.T 3,.const .af]] []
 (.cond (.T 4) [0] (.s [.o 2 .move [.const .af]] [] .ret) [] .skip)) (.s [
 .o 5 (.lit 4 0 [.str [],.i 0,.i 0,.i 0] []) [],.w 6 0,.o 7 (.append 4 40) [.T 5,.T 6],.w 2 7] [] .ret))) }
def ER:bN:=
 (.s [.J 11 .lss 10 9] [] (.seq (.w 11 [0,8,9,10] 0) (.seq (.block 1 (.s [
 .Y 12 9 8 10,.L 13 9 12,
 .o 7 (.cq 0 [.i 0,.str [],.str [],.i 0,.af,.af,.af,.i 0,.i 0]) [],.Q 0 9 7 13] [] (.seq
 (.s [.v 14 0,.a 15 46 14] [14] (.cond (.T 15) [0,5,7,8,9,10] (.s [.o 4 .move [.const .af]] []
 .ret) [] .skip)) (.g [.w 16 5,.v 17 0,.A 18 0 9 7,.p 19 95 17 18,
 .o 20 (.lit 9 1 [.i 0,.str [],.str [],.i 0,.af,.af,.af,.i 0,.i 0] [0]) [.T 19],.o 21 (.append 9 136) [.T 16,.T 20],
 .w 5 21] [7,17])))) (.g [.I 22 .add 10 1,.v 10 22] [22]))))
def ZL:aL:={ eP:=75,mode:=.jY,aH:=2,aP:=1,dD:=[],results:=[.tmp 4 true],body:=
 (.s [.o 4 .move [.const .af]] [4] (.s [.o 5 .move [.const .af]] [] (.seq (.s [.w 8 1,
 .h 9 8,.m 10 (.i 0)] [] (.block 0 (.loop ER))) (.s [.w 23 5,
 .w 4 23] [] .ret)))) }
def s76:aL:={ eP:=76,mode:=.yK,aH:=1,aP:=0,dD:=[],results:=[.tmp 2 true],body:=
 (.s [.o 2 .move [.const .af]] [2] (.seq (.s [.v 3 0,.o 4 (.NO false) [.T 3,.const .af]] []
 (.cond (.T 4) [0] (.s [.o 2 .move [.const .af]] [] .ret) [] .skip)) (.s [.o 5 (.lit 1 0 [.bool false] []) [],
 .w 6 0,.o 7 (.gu 1 1) [.T 5,.T 6],.w 2 7] [] .ret))) }
def MJ:bN:=
 (.s [.J 17 .lss 16 15] [] (.seq (.w 17 [14,15,16] 0) (.seq (.block 1 (.s [
 .Y 18 11 14 16,.L 19 11 18,
 .o 8 (.cq 1 [.i 0,.i 0,.str [],.str [],.i 0,.af,.i 0,.i 0,.i 0,.i 0,.i 0]) [],
 .Q 1 11 8 19] [] (.g [.v 20 0,.A 21 1 11 8,.v 22 2,
 .c 23 96 [.t 20,.T 21,.T 22]] [8,20,23]))) (.g [.I 24 .add 16 1,.v 16 24] [24]))))
def TR:bN:=
 (.s [.J 48 .lss 47 46] [] (.seq (.w 48 [46,47] 3) (.seq (.block 4 (.s [
 .v 49 47,.v 9 49] [49] (.g [.v 50 2,.v 51 9,.X 52 1 50 51,
 .n (.store 1) [.T 52,.b true]] [9,51]))) (.g [.I 53 .add 47 1,.v 47 53] [53]))))
def TS:bN:=
 (.s [.J 76 .lss 75 74] [] (.seq (.w 76 [10,11,74,75] 5) (.seq (.block 6 (.s [
 .v 77 75,.v 12 77] [77] (.g [.v 78 2,.v 79 12,.v 80 10,.v 81 12,
 .X 82 1 80 81,.D 83 82,.v 84 83,.vy 85 11 84,.vy 86 12 84,
 .y 87 (.indexAddr 1) [.T 85,.t 86] 84,.Dy 88 87 84,.O 89 84 88,
 .X 90 1 78 79,.R 1 90 89] [12,79,81,83,84,85,86,87,88,89]))) (.g [
 .I 91 .add 75 1,.v 75 91] [91]))))
def KE:aL:={ eP:=77,mode:=.yK,aH:=3,aP:=2,dD:=[],results:=[.tmp 6 true],body:=
 (.s [.B 4 0 9 1,.o 6 .move [.const .af]] [6] (.seq (.s [.e 13 4 4,
 .k 14 0 13,.h 15 14,.m 16 (.i 0)] [13] (.block 0 (.loop MJ))) (.seq (.s [.e 25 0 4,.k 26 0 25] [25] (.block 2 (.s [
 .I 28 .eql 26 1,.v 27 28] [28] (.cond (.T 27) [0,26] (.g [.v 29 2,
 .e 30 8 4,.k 31 0 30,.X 32 1 29 31,
 .n (.store 1) [.T 32,.b false]] [4,30,31]) [] (.seq (.s [.I 34 .eql 26 2,
 .v 33 34] [34] (.cond (.t 33) [] .skip [33] (.g [.I 35 .eql 26 3,.v 33 35] [35])))
 (.cond (.T 33) [0,26] (.s [.e 36 8 4,.k 37 0 36,
 .I 38 .geq 37 0] [36,37] (.cond (.T 38) [] (.g [.v 39 2,.e 40 8 4,
 .k 41 0 40,.X 42 1 39 41,.n (.store 1) [.T 42,.b true]] [4,40,41]) [4] .skip)) [] (.s [.I 44 .eql 26 7,.v 43 44] [44] (.cond (.T 43) [0,4,26] (.s [.v 45 2,
 .H 46 45,.m 47 (.i 0)] [] (.block 3 (.loop TR))) [] (.s [
 .I 55 .eql 26 6,.v 54 55] [55] (.cond (.T 54) [26] (.g [.v 56 0,
 .e 57 5 4,.k 58 0 57,.v 59 2,.c 60 47 [.t 56,.T 58,.T 59]] [0,4,56,57,60]) [] (.s [.I 62 .eql 26 5,.v 61 62] [26,62] (.cond (.T 61) [] (.seq (.r [.v 63 0,
 .e 64 5 4,.k 65 0 64,.v 66 2,.c 67 47 [.t 63,.T 65,.T 66],.v 68 0,
 .e 69 6 4,.k 70 0 69,.v 71 2,.c 72 47 [.t 68,.T 70,.T 71],.w 10 67,
 .w 11 72] (some []) [0,4,63,64,68,69]) (.s [.v 73 2,.H 74 73,.m 75 (.i 0)] []
 (.block 5 (.loop TS)))) [0,4] .skip)))))))))))) (.s [.w 92 2,.w 6 92] [] .ret)))) }
def Qh:aL:={ eP:=78,mode:=.yK,aH:=3,aP:=1,dD:=[],results:=[],body:=
 (.s [.B 5 0 9 2] [] (.seq (.s [.e 8 0 5,.k 9 0 8] [8]
 (.block 0 (.s [.I 11 .eql 9 1,.v 10 11] [11] (.cond (.T 10) [0,1,5,9] .ret [] (.s [
 .I 13 .eql 9 6,.v 12 13] [9,13] (.cond (.T 12) [] (.s [.v 14 0,.v 15 1,
 .A 16 0 9 5,.c 17 97 [.t 14,.t 15,.T 16]] [0,1,5,14,15,17] .ret) [] .skip)))))) (.seq (.s [
 .v 18 0,.a 19 98 18,.o 20 (.un .not) [.t 19]] [18,19] (.cond (.T 20) [0,1,5] .ret [] .skip)) (.seq (.s [
 .e 21 0 5,.k 22 0 21,.I 23 .eql 22 4] [21,22] (.cond (.T 23) [] (.s [.v 24 0,.v 25 1,.A 26 0 9 5,.c 27 99 [.t 24,.t 25,.T 26]] [0,1,5,24,25,27] .ret) []
 .skip)) (.s [.v 29 0,.v 30 1,.e 31 4 5,.k 32 0 31,
 .c 33 100 [.t 29,.t 30,.T 32],.w 28 33,.x 34 0 28,.u 35 1 28,.w 6 34,
 .v 7 35] [29,30,31,35] (.seq (.s [.v 36 7,.o 37 (.un .not) [.t 36]] [7,36] (.cond (.T 37) [0,1,5,6] .ret []
 .skip)) (.s [.e 38 0 5,.k 39 0 38] [38] (.block 1 (.seq (.s [
 .I 41 .eql 39 2,.v 40 41] [41] (.cond (.t 40) [] .skip [40] (.g [
 .I 42 .eql 39 3,.v 40 42] [42]))) (.cond (.T 40) [39] (.r [.v 43 0,.v 44 1,
 .e 45 8 5,.k 46 0 45,.c 47 101 [.t 43,.t 44,.t 46],.w 48 6,
 .Z 49 1 48 0,.D 50 49,.N 51 47,
 .R 1 51 50] (some [(6,4),(7,4)]) [0,1,5,43,44,45,46,47,50]) [] (.s [.I 53 .eql 39 5,
 .v 52 53] [53] (.cond (.T 52) [39] (.seq (.s [.w 54 6,.Z 55 1 54 0,
 .D 56 55,.I 57 .neq 56 0] [56] (.cond (.T 57) [] (.s [.v 58 0,
 .v 59 1,.e 60 5 5,.k 61 0 60,.c 62 49 [.t 58,.t 59,.T 61]] [0,1,5,58,59,60,62]
 .ret) [] .skip)) (.g [.v 63 0,.v 64 1,.e 65 6 5,.k 66 0 65,
 .c 67 49 [.t 63,.t 64,.T 66]] [0,1,5,63,64,65,67])) [5] (.s [.I 69 .eql 39 7,
 .v 68 69] [69] (.cond (.T 68) [0,39] (.s [.v 70 1,.N 71 70,.E 72 2 71,
 .n (.store 1) [.T 72,.b true]] [70] (.s [.v 73 6,.H 74 73,
 .I 75 .gtr 74 0] [74] (.cond (.T 75) [] (.g [.v 76 1,.w 77 6,
 .Z 78 1 77 0,.D 79 78,.N 80 76,.E 81 1 80,
 .R 1 81 79] [1,76,79]) [1,6] .skip))) [1] (.s [.I 83 .eql 39 8,
 .v 82 83] [39,83] (.cond (.T 82) [] (.r [.v 84 0,.v 85 0,.N 86 85,
 .E 87 10 86,.E 88 2 87,.D 89 88,.w 90 6,
 .Z 91 1 90 0,.D 92 91,.o 93 (.lit 1 1 [.i 0] [0]) [.t 92],
 .o 94 (.gu 1 8) [.T 89,.T 93],.N 95 84,.E 96 10 95,.E 97 2 96,
 .n (.store 1) [.T 97,.T 94]] (some []) [0,84,85,92]) [0,6] .skip)))))))))))))))) }
def s79:aL:={ eP:=79,mode:=.pure,aH:=1,aP:=1,dD:=[],results:=[.box 2 0 2 true],body:=
 (.s [.G 2 0 [.i 0,.i 0]] [] (.s [.v 3 0,
 .o 4 (.build [.i 0,.i 0] [(0,1),(1,1)]) [.i 3,.t 3],.S 0 2 2 4] [0,3,4] .ret)) }
def TT:bN:=
 (.seq (.s [.v 27 10,.v 28 7,.J 29 .lss 27 28] [27,28] (.w 29 [10] 2)) (.seq
 (.block 3 (.r [.v 32 9,.v 33 32,.vy 34 1 33,.vy 35 10 33,.y 36 (.indexAddr 4) [.T 34,.t 35] 33,
 .Ey 37 0 36 33,.Dy 38 37 33,.vy 39 1 33,.vy 40 7 33,.y 41 (.indexAddr 4) [.T 39,.t 40] 33,
 .Ey 42 0 41 33,.Dy 43 42 33,.Jy 44 .neq 38 43 33,.O 45 33 44,
 .v 9 45] (some []) [32,33,34,35,36,37,38,39,40,41,42,43,44,45])) (.g [.v 30 10,.I 31 .add 30 1,
 .v 10 31] [30,31])))
def TU:bN:=
 (.seq (.s [.v 11 7,.v 12 1,.H 13 12,.J 14 .lss 11 13] [11,13] (.w 14 [0,1,7] 0)) (.seq (.block 1 (.s [.v 18 0,.v 19 1,.v 20 7,.X 21 4 19 20,
 .E 22 1 21,.L 23 2 22,.c 24 81 [.T 18,.t 23],.w 17 24,.x 25 0 17,
 .u 26 1 17,.G 8 1 [.i 0,.i 0,.i 0],.S 1 3 8 25,.v 9 26] [20,23,25,26]
 (.seq (.s [.m 10 (.i 0)] [] (.block 2 (.loop TT))) (.seq (.s [.v 46 9,
 .o 47 (.un .not) [.t 46]] [9,46] (.cond (.T 47) [0,6,8] (.s [.w 48 1,.v 49 7,.X 50 4 48 49,
 .E 51 3 50,.D 52 51,.a 53 79 52,.o 4 .move [.const .af],
 .S 0 2 5 53] [7,49,52,53] .ret) [] .skip)) (.r [.w 54 6,.v 55 1,.v 56 7,
 .X 57 4 55 56,.E 58 0 57,.D 59 58,.A 60 1 3 8,
 .o 61 (.build [.str [],.i 0,.i 0,.i 0] [(0,1),(1,3)]) [.t 59,.t 60],
 .o 62 (.lit 4 1 [.str [],.i 0,.i 0,.i 0] [0]) [.t 61],.o 63 (.append 4 40) [.T 54,.T 62],
 .w 6 63] (some []) [8,56,59,60,61]))))) (.g [.v 15 7,.I 16 .add 15 1,
 .v 7 16] [15,16])))
def s80:aL:={ eP:=80,mode:=.pure,aH:=2,aP:=2,dD:=[],results:=[.tmp 4 true,.box 5 0 2 true],body:=
 (.s [.o 4 .move [.const .af],.G 5 0 [.i 0,.i 0]] [4] (.s [.o 6 .move [.const .af]] []
 (.seq (.s [.m 7 (.i 0)] [] (.block 0 (.loop TU))) (.s [.w 64 6,
 .o 65 (.build [.i 0,.i 0] []) [],.w 4 64,.S 0 2 5 65] [65] .ret)))) }
def TV:bN:=
 (.seq (.s [.v 28 6,.v 29 0,.H 30 29,.J 31 .lss 28 30] [28,30] (.w 31 [0,3,6] 1)) (.seq (.block 2 (.seq (.r [.v 34 0,.v 35 6,.X 36 1 34 35,
 .D 37 36,.e 38 0 3,.k 39 0 38,
 .J 40 .eql 37 39] (some []) [35,37,38,39]) (.cond (.T 40) [0] (.s [.v 41 6,.e 42 1 3,
 .k 43 0 42,.o 44 (.build [.i 0,.i 0,.i 0] [(0,1),(1,1),(2,1)]) [.i 3,.t 41,.t 43],
 .S 1 3 4 44,.m 5 (.b true)] [3,6,41,42,43,44] .ret) [] .skip))) (.g [.v 32 6,
 .I 33 .add 32 1,.v 6 33] [32,33])))
def s81:aL:={ eP:=81,mode:=.pure,aH:=2,aP:=2,dD:=[],results:=[.box 4 1 3 true,.tmp 5 false],body:=
 (.s [.o 3 (.vn 0 2) [.t 1],.G 4 1 [.i 0,.i 0,.i 0],.m 5 (.b false)] [1,5] (.seq
 (.s [.e 7 1 3,.k 8 0 7,.I 9 .lss 8 0,.v 10 9,
 .ez 11 1 3 10,.kz 12 0 11 10,.Iz 13 .gtr 12 3 10,
 .P 14 10 13] [7,8,9,10,11,12,13] (.cond (.T 14) [0,3] (.s [
 .o 15 (.build [.i 0,.i 0,.i 0] []) [],.S 1 3 4 15,.m 5 (.b false)] [15] .ret) [] .skip))
 (.seq (.s [.e 16 0 3,.k 17 0 16] [16] (.block 0 (.s [
 .o 19 (.td .eql) [.t 17,.const (.str [105,110,116])],.v 18 19] [19] (.cond (.T 18) [0,17] (.s [.e 20 1 3,
 .k 21 0 20,.o 22 (.build [.i 0,.i 0,.i 0] [(0,1),(2,1)]) [.i 1,.t 21],
 .S 1 3 4 22,.m 5 (.b true)] [3,20,21,22] .ret) [] (.s [
 .o 24 (.td .eql) [.t 17,.const (.str [98,111,111,108])],.v 23 24] [17,24] (.cond (.T 23) [0] (.s [.e 25 1 3,
 .k 26 0 25,.o 27 (.build [.i 0,.i 0,.i 0] [(0,1),(2,1)]) [.i 2,.t 26],
 .S 1 3 4 27,.m 5 (.b true)] [3,25,26,27] .ret) [] .skip)))))) (.seq (.s [
 .m 6 (.i 0)] [] (.block 1 (.loop TV))) (.s [.o 45 (.build [.i 0,.i 0,.i 0] []) [],
 .S 1 3 4 45,.m 5 (.b false)] [45] .ret))))) }
def sI:bN:=
 (.seq (.s [.v 60 10,.e 61 4 3,.k 62 0 61,.H 63 62,
 .J 64 .lss 60 63,.v 65 64,.vy 66 0 65,.y 67 (.call 53) [.t 66] 65,
 .O 68 65 67] [60,61,63,64,65,66,67] (.w 68 [10] 0)) (.seq (.block 1 (.s [
 .e 71 0 3,.k 72 0 71,.I 73 .eql 72 9] [71,72] (.cond (.T 73) []
 (.r [.e 74 4 5,.o 75 (.gW 2 false 1 true) [.t 74],.v 76 0,.e 77 4 3,
 .k 78 0 77,.v 79 10,.X 80 11 78 79,.L 81 11 80,
 .p 82 104 76 81,
 .o 83 (.lit 11 1 [.i 0,.i 0,.str [],.str [],.i 0,.af,.i 0,.i 0,.i 0,.i 0,.i 0] [0]) [.T 82],
 .o 84 (.append 11 120) [.T 75,.T 83],.e 85 4 5,.Q 2 1 85 84] (some []) [74,76,77,79,85]) [] (.r [
 .e 86 4 5,.o 87 (.gW 2 false 1 true) [.t 86],.v 88 0,.e 89 4 3,.k 90 0 89,
 .v 91 10,.X 92 11 90 91,.L 93 11 92,.p 94 105 88 93,
 .o 95 (.lit 11 1 [.i 0,.i 0,.str [],.str [],.i 0,.af,.i 0,.i 0,.i 0,.i 0,.i 0] [0]) [.T 94],
 .o 96 (.append 11 120) [.T 87,.T 95],.e 97 4 5,.Q 2 1 97 96] (some []) [86,88,89,91,97])))) (.g [
 .v 69 10,.I 70 .add 69 1,.v 10 70] [69,70])))
def MK:bN:=
 (.seq (.s [.v 189 15,.v 190 0,.N 191 190,.E 192 11 191,
 .D 193 192,.H 194 193,.J 195 .lss 189 194] [189,190,194] (.w 195 [15] 3)) (.seq (.block 4 (.r [.v 198 11,.v 199 198,.vy 200 0 199,.y 201 .nilCheck [.t 200] 199,
 .Ey 202 11 201 199,.Dy 203 202 199,.vy 204 15 199,.y 205 (.indexAddr 4) [.T 203,.t 204] 199,
 .Ey 206 0 205 199,.Dy 207 206 199,.ey 208 1 3 199,.ky 209 0 208 199,
 .Jy 210 .neq 207 209 199,.O 211 199 210,
 .v 11 211] (some []) [198,199,200,201,202,203,204,205,206,207,208,209,210,211])) (.g [.v 196 15,
 .I 197 .add 196 1,.v 15 197] [196,197])))
def oQ:aL:={ eP:=82,mode:=.jY,aH:=2,aP:=6,dD:=[],results:=[.box 4 1 9 true],body:=
 (.s [.B 3 0 9 1,.o 4 (.cq 1 [.i 0,.str [],.str [],.i 0,.af,.af,.af,.i 0,.i 0]) []] []
 (.s [.e 16 0 3,.k 17 0 16,.e 18 7 3,.k 19 0 18,
 .o 20 (.build [.i 0,.str [],.str [],.i 0,.af,.af,.af,.i 0,.i 0] [(0,1),(7,1)]) [.t 17,.t 19],
 .o 5 (.cq 2 [.i 0,.str [],.str [],.i 0,.af,.af,.af,.i 0,.i 0]) [],.Q 2 9 5 20] [16,17,18,19]
 (.seq (.s [.v 21 0,.A 22 0 9 3,.p 23 102 21 22,.o 24 (.un .not) [.t 23]] [21,23]
 (.cond (.T 24) [] (.s [.v 25 0,.e 26 7 3,.k 27 0 26,
 .q 28 103 25 27] [0,3,25,26,27,28] (.s [.A 29 2 9 5,.Q 1 9 4 29] [5]
 .ret)) [] .skip)) (.s [.G 6 3 [.i 0,.i 0,.i 0]] [] (.s [.e 30 0 3,
 .k 31 0 30,.I 32 .eql 31 1,.v 33 32,.ez 34 0 3 33,
 .kz 35 0 34 33,.Iz 36 .eql 35 2 33,.P 37 33 36,
 .v 7 37] [30,31,32,33,34,35,36,37] (.seq (.s [.v 38 7] [] (.cond (.T 38) [] (.seq (.r [.v 40 0,
 .N 41 40,.E 42 4 41,.D 43 42,.e 44 2 3,
 .A 45 0 2 44,.c 46 81 [.T 43,.t 45],.w 39 46,.x 47 0 39,.x 48 1 39,
 .G 8 4 [.i 0,.i 0,.i 0],.S 4 3 8 47,.v 9 48] (some []) [39,40,44,45,47,48]) (.seq (.s [.v 49 9,.o 50 (.un .not) [.t 49]] [9,49] (.cond (.T 50) [6,7,8] (.s [.v 51 0,.e 52 7 3,
 .k 53 0 52,.q 54 103 51 53] [0,3,51,52,53,54] (.s [.A 55 2 9 5,
 .Q 1 9 4 55] [5] .ret)) [] .skip)) (.s [.A 56 4 3 8,.S 3 3 6 56] [8,56]
 (.g [.e 57 2 3,.A 58 0 2 57,.e 59 2 5,
 .S 2 2 59 58] [57,58,59])))) [] .skip)) (.seq (.s [.m 10 (.i 0)] [] (.block 0 (.loop sI)))
 (.seq (.s [.v 98 0,.a 99 53 98,.o 100 (.un .not) [.t 99]] [98,99] (.cond (.T 100) [0,3,6,7] (.s [
 .A 101 2 9 5,.Q 1 9 4 101] [5] .ret) [] .skip)) (.s [.m 11 (.b true)] []
 (.seq (.s [.e 102 0 3,.k 103 0 102] [102] (.block 2 (.s [
 .I 105 .eql 103 2,.v 104 105] [105] (.cond (.T 104) [11,103] (.r [.e 106 4 5,
 .k 107 2 106,.Z 108 11 107 0,.E 109 7 108,
 .L 110 3 109,.A 111 3 3 6,.o 112 (.ua (.flat [.int,.int,.int]) false) [.t 110,.t 111],
 .v 11 112] (some []) [106,110,111,112]) [] (.s [.I 114 .eql 103 3,.v 113 114] [114]
 (.cond (.T 113) [11,103] (.s [.v 116 0,.e 117 1 3,.k 118 0 117,
 .q 119 106 116 118,.w 115 119,.x 120 0 115,.x 121 1 115,.u 122 2 115,
 .G 13 5 [.i 0,.i 0,.i 0],.v 12 120,.S 5 3 13 121,
 .v 14 122] [116,117,118,120,121,122] (.s [.v 123 12,.e 124 8 5,
 .S 2 1 124 123] [12,123,124] (.r [.v 125 14,.v 126 125,.y 127 (.gW 5 true 3 false) [.t 13] 126,
 .ey 128 4 5 126,.ky 129 2 128 126,.Zy 130 11 129 0 126,
 .Ey 131 7 130 126,.y 132 (.load true 3 false) [.T 131] 126,.y 133 (.ua (.flat [.int,.int,.int]) false) [.t 127,.t 132] 126,
 .O 134 126 133,.v 11 134] (some []) [13,14,125,126,127,128,129,130,131,132,133,134]))) [] (.s [
 .I 136 .eql 103 4,.v 135 136] [136] (.cond (.T 135) [11,103] (.r [.e 137 4 5,
 .k 138 2 137,.Z 139 11 138 0,.E 140 7 139,
 .L 141 3 140,.e 142 4 5,.k 143 2 142,
 .Z 144 11 143 1,.E 145 7 144,.L 146 3 145,
 .o 147 (.ua (.flat [.int,.int,.int]) false) [.t 141,.t 146],.v 11 147] (some []) [137,141,142,146,147]) [] (.seq (.s [
 .I 149 .eql 103 5,.v 148 149] [149] (.cond (.t 148) [] .skip [148] (.g [
 .I 150 .eql 103 6,.v 148 150] [150]))) (.cond (.T 148) [11,103] (.r [.e 151 4 5,
 .k 152 2 151,.Z 153 11 152 0,.E 154 7 153,
 .L 155 3 154,.c 156 107 [],.o 157 (.ua (.flat [.int,.int,.int]) false) [.t 155,.t 156],
 .v 11 157] (some []) [151,155,156,157]) [] (.s [.I 159 .eql 103 7,.v 158 159] [159]
 (.cond (.T 158) [11,103] (.r [.v 160 0,.N 161 160,.E 162 5 161,.E 163 2 162,
 .D 164 163,.o 165 (.un .not) [.t 164],.v 166 165,.ez 167 4 5 166,
 .kz 168 2 167 166,.z 169 (.indexAddr 11) [.T 168,.i 0] 166,.Ez 170 7 169 166,
 .z 171 (.load true 3 false) [.T 170] 166,.vz 172 0 166,.z 173 .nilCheck [.t 172] 166,.Ez 174 5 173 166,
 .Ez 175 3 174 166,.z 176 (.load true 3 false) [.T 175] 166,.z 177 (.ua (.flat [.int,.int,.int]) false) [.t 171,.t 176] 166,
 .P 178 166 177,.v 11 178] (some []) [160,164,165,166,167,168,169,170,171,172,173,174,175,176,177,178]) [] (.s [.I 180 .eql 103 8,.v 179 180] [103,180] (.cond (.T 179) [11] (.r [
 .e 181 4 5,.k 182 2 181,.Z 183 11 182 0,.E 184 7 183,
 .L 185 3 184,.c 186 108 [],.o 187 (.ua (.flat [.int,.int,.int]) false) [.t 185,.t 186],
 .v 11 187] (some []) [181,185,186,187]) [] .skip)))))))))))))) (.seq (.s [.v 188 7] [] (.cond (.T 188) [] (.seq (.s [.m 15 (.i 0)] [] (.block 3 (.loop MK))) (.g [.v 212 0,.N 213 212,
 .E 214 11 213,.D 215 214,.H 216 215,.e 217 8 5,
 .S 2 1 217 216] [212,216,217])) [] .skip)) (.seq (.s [.v 218 11,.o 219 (.un .not) [.t 218]] [11,218]
 (.cond (.T 219) [6,7] (.s [.v 220 0,.e 221 7 3,.k 222 0 221,
 .q 223 103 220 222] [0,3,220,221,222,223] (.s [.A 224 2 9 5,
 .Q 1 9 4 224] [5] .ret)) [] .skip)) (.seq (.s [.v 225 7] [] (.cond (.T 225) [] (.r [
 .v 226 0,.v 227 0,.N 228 227,.E 229 11 228,.o 230 (.load false 1 true) [.T 229],
 .e 231 1 3,.k 232 0 231,.A 233 3 3 6,
 .o 234 (.build [.str [],.i 0,.i 0,.i 0] [(0,1),(1,3)]) [.t 232,.t 233],
 .o 235 (.lit 4 1 [.str [],.i 0,.i 0,.i 0] [0]) [.t 234],.o 236 (.append 4 40) [.T 230,.T 235],.N 237 226,
 .E 238 11 237,.n (.store 1) [.T 238,.T 236]] (some []) [6,226,227,231,232,233,234]) [6] .skip)) (.seq (.s [.v 239 7,
 .v 240 239,.ez 241 0 3 240,.kz 242 0 241 240,.Iz 243 .eql 242 3 240,
 .P 244 240 243] [7,239,240,241,242,243] (.cond (.T 244) [] (.g [.e 245 1 3,
 .k 246 0 245,.e 247 1 5,.S 2 1 247 246] [245,246,247]) [] .skip)) (.seq (.s [.e 248 0 3,.k 249 0 248,.I 250 .eql 249 5,.v 251 250,
 .ez 252 0 3 251,.kz 253 0 252 251,.Iz 254 .eql 253 6 251,
 .P 255 251 254] [248,249,250,251,252,253,254] (.cond (.T 255) [] (.g [.v 256 0,
 .e 257 5 3,.k 258 0 257,.p 259 52 256 258,.e 260 5 5,
 .Q 2 1 260 259] [256,257,260]) [] .skip)) (.seq (.s [.e 261 0 3,
 .k 262 0 261,.I 263 .eql 262 5] [261,262] (.cond (.T 263) [] (.g [.v 264 0,
 .e 265 6 3,.k 266 0 265,.p 267 52 264 266,.e 268 6 5,
 .Q 2 1 268 267] [0,3,264,265,268]) [0,3] .skip)) (.s [.A 269 2 9 5,
 .Q 1 9 4 269] [5] .ret))))))))))))))))) }
def TW:bN:=
 (.seq (.s [.v 5 4,.e 6 5 3,.k 7 0 6,.H 8 7,
 .J 9 .lss 5 8] [5,6,8] (.w 9 [4] 0)) (.seq (.block 1 (.g [.v 12 0,.e 13 5 3,
 .k 14 0 13,.v 15 4,.X 16 11 14 15,.L 17 11 16,
 .p 18 83 12 17] [12,13,15,18])) (.g [.v 10 4,.I 11 .add 10 1,
 .v 4 11] [10,11])))
def s83:aL:={ eP:=83,mode:=.jY,aH:=2,aP:=1,dD:=[],results:=[],body:=
 (.s [.B 3 0 11 1] [] (.seq (.s [.m 4 (.i 0)] [] (.block 0 (.loop TW))) (.seq
 (.r [.e 19 0 3,.k 20 0 19,.I 21 .eql 20 4,.v 22 21,
 .ey 23 10 3 22,.ky 24 0 23 22,.Iy 25 .geq 24 0 22,
 .O 26 22 25,.v 27 26,.vy 28 0 27,.y 29 .nilCheck [.t 28] 27,.Ey 30 0 29 27,
 .Dy 31 30 27,.ey 32 10 3 27,.ky 33 0 32 27,.y 34 (.indexAddr 1) [.T 31,.t 33] 27,
 .Dy 35 34 27,.y 36 (.un .not) [.t 35] 27,.O 37 27 36,.v 38 37,
 .vy 39 0 38,.y 40 .nilCheck [.t 39] 38,.Ey 41 1 40 38,.Ey 42 0 41 38,.Dy 43 42 38,
 .Iy 44 .eql 43 0 38,
 .O 45 38 44] (some []) [19,20,21,22,23,24,25,26,27,28,29,30,31,32,33,34,35,36,37,38,39,40,41,42,43,44]) (.cond (.T 45) []
 (.g [.v 46 0,.e 47 6 3,.k 48 0 47,.a 49 79 48,.N 50 46,
 .E 51 1 50,.R 2 51 49] [0,3,46,47,48,49]) [0,3] .skip)))) }
def ML:bN:=
 (.seq (.s [.v 3 2,.v 4 0,.N 5 4,.E 6 0 5,.D 7 6,
 .H 8 7,.J 9 .lss 3 8] [3,4,8] (.w 9 [0,2] 0)) (.seq (.block 1 (.g [.v 12 0,
 .N 13 12,.E 14 0 13,.D 15 14,.v 16 2,.X 17 1 15 16,
 .n (.store 1) [.T 17,.b true]] [12,16])) (.g [.v 10 2,.I 11 .add 10 1,
 .v 2 11] [10,11])))
def s84:aL:={ eP:=84,mode:=.jY,aH:=1,aP:=0,dD:=[],results:=[],body:=
 (.s [.m 2 (.i 0)] [] (.block 0 (.loop ML))) }
def TX:bN:=
 (.seq (.s [.v 12 0,.a 13 109 12] [12] (.w 13 [0,3] 1)) (.block 2 (.s [
 .v 14 0,.e 15 4 3,.k 16 0 15,.Z 17 11 16 0,
 .L 18 11 17,.p 19 110 14 18,.v 4 19] [14,15,19] (.seq (.s [.v 20 0,
 .a 21 35 20,.v 22 21,.vz 23 4 22,.Iz 24 .eql 23 0 22,
 .P 25 22 24] [4,20,21,22,23,24] (.cond (.T 25) [0,3] .ret [] .skip)) (.s [.v 26 0,
 .e 27 5 3,.k 28 0 27,.p 29 56 26 28] [26,27,29] (.s [.v 30 0,
 .N 31 30,.E 32 15 31,.D 33 32] [30] (.cond (.T 33) [0,3] .ret [] .skip)))))))
def Qi:aL:={ eP:=85,mode:=.yK,aH:=2,aP:=1,dD:=[],results:=[],body:=
 (.s [.B 3 0 9 1] [] (.seq (.s [.e 6 0 3,.k 7 0 6] [6]
 (.block 0 (.s [.I 9 .eql 7 1,.v 8 9] [9] (.cond (.T 8) [0,3,7] .ret [] (.s [
 .I 11 .eql 7 6,.v 10 11] [7,11] (.cond (.T 10) [] (.seq (.block 1 (.loop TX)) .ret) [] .skip)))))) (.seq
 (.s [.v 34 0,.a 35 109 34,.o 36 (.un .not) [.t 35]] [34,35] (.cond (.T 36) [0,3] .ret [] .skip)) (.seq (.s [.e 37 0 3,.k 38 0 37,.I 39 .eql 38 4] [37,38]
 (.cond (.T 39) [] (.s [.v 40 0,.A 41 0 9 3,.p 42 111 40 41] [0,3,40,42] .ret) []
 .skip)) (.s [.v 43 0,.e 44 4 3,.k 45 0 44,.p 46 112 43 45,
 .w 5 46] [43,44] (.seq (.s [.v 47 0,.a 48 35 47] [47] (.cond (.T 48) [0,3,5] .ret [] .skip)) (.s [.e 49 0 3,.k 50 0 49] [49] (.block 3 (.seq (.s [
 .I 52 .eql 50 2,.v 51 52] [52] (.cond (.t 51) [] .skip [51] (.g [
 .I 53 .eql 50 3,.v 51 53] [53]))) (.cond (.T 51) [50] (.s [.e 54 8 3,
 .k 55 0 54,.I 56 .lss 55 0] [54,55] (.cond (.T 56) [] (.r [.v 57 0,
 .N 58 57,.E 59 12 58,.D 60 59,.e 61 8 3,
 .k 62 0 61,.o 63 (.td .sub) [.const (.i (-1)),.t 62],.w 64 5,
 .Z 65 1 64 0,.D 66 65,.X 67 1 60 63,
 .R 1 67 66] (some []) [0,3,57,61,62,63,66]) [] (.r [.v 68 0,.N 69 68,.E 70 14 69,
 .D 71 70,.e 72 8 3,.k 73 0 72,.w 74 5,
 .Z 75 1 74 0,.D 76 75,.X 77 1 71 73,
 .R 1 77 76] (some []) [0,3,68,72,73,76]))) [] (.s [.I 79 .eql 50 5,
 .v 78 79] [79] (.cond (.T 78) [50] (.s [.w 80 5,.Z 81 1 80 0,
 .D 82 81,.I 83 .neq 82 0] [82] (.cond (.T 83) [] (.g [.v 84 0,
 .e 85 5 3,.k 86 0 85,.p 87 56 84 86] [0,3,84,85,87]) [] (.g [.v 88 0,
 .e 89 6 3,.k 90 0 89,.p 91 56 88 90] [0,3,88,89,91]))) [3] (.s [
 .I 93 .eql 50 7,.v 92 93] [93] (.cond (.T 92) [50] (.s [.v 94 0,
 .N 95 94,.E 96 16 95,.n (.store 1) [.T 96,.i 0]] [94] (.seq (.s [.v 97 5,
 .H 98 97,.I 99 .gtr 98 0] [98] (.cond (.T 99) [] (.g [.v 100 0,.w 101 5,
 .Z 102 1 101 0,.D 103 102,.N 104 100,.E 105 16 104,
 .R 1 105 103] [100,103]) [5] .skip)) (.g [.v 106 0,.N 107 106,.E 108 15 107,
 .n (.store 1) [.T 108,.b true]] [0,106]))) [] (.s [.I 110 .eql 50 8,
 .v 109 110] [50,110] (.cond (.T 109) [] (.r [.v 111 0,.v 112 0,.N 113 112,
 .E 114 7 113,.E 115 2 114,.D 116 115,.w 117 5,
 .Z 118 1 117 0,.D 119 118,.o 120 (.lit 1 1 [.i 0] [0]) [.t 119],
 .o 121 (.gu 1 8) [.T 116,.T 120],.N 122 111,.E 123 7 122,.E 124 2 123,
 .n (.store 1) [.T 124,.T 121]] (some []) [0,111,112,119]) [0,5] .skip)))))))))))))))) }
def s90:aL:={ eP:=90,mode:=.pure,aH:=0,aP:=0,dD:=[],results:=[.tmp 0 true],body:=
 (.s [.o 0 .move [.const .af]] [0] (.s [
 .o 1 (.lit 1 18 [.str []] [0,1,2,3,4,5,6,7,8,9,10,11,12,13,14,15,16,17]) [.const (.str [114,101,99,111,114,100]),.const (.str [103,108,111,98,97,108]),.const (.str [102,117,110,99]),.const (.str [118,97,114]),.const (.str [108,101,116]),.const (.str [105,102]),.const (.str [101,108,115,101]),.const (.str [119,104,105,108,101]),.const (.str [114,101,116,117,114,110]),.const (.str [112,114,105,110,116]),.const (.str [110,117,108,108]),.const (.str [110,101,119]),.const (.str [108,101,110]),.const (.str [114,101,97,100]),.const (.str [116,114,117,101]),.const (.str [102,97,108,115,101]),.const (.str [105,110,116]),.const (.str [98,111,111,108])],
 .w 0 1] [] .ret)) }
def TY:bN:=
 (.seq (.s [.v 16 0,.a 17 19 16,.v 18 17,.vy 19 1 18,.vy 20 0 18,
 .y 21 (.call 20) [.t 20] 18,.y 22 (.call 114) [.t 19,.t 21] 18,.Iy 23 .neq 22 0 18,
 .O 24 18 23] [16,17,18,19,20,21,22,23] (.w 24 [0,1] 0)) (.block 1 (.s [
 .v 25 0,.a 26 20 25,.o 6 (.cq 2 [.i 0,.str [],.i 0,.i 0]) [],.S 2 4 6 26] [25,26]
 (.s [.v 27 0,.N 28 27,.E 29 1 28,.D 30 29,
 .I 31 .add 30 1,.N 32 27,.E 33 1 32,.R 1 33 31] [27,30,31] (.s [.v 34 0,.v 35 1,.I 36 .add 35 1,.q 37 91 34 36,
 .o 7 (.cq 3 [.i 0,.i 0,.str [],.str [],.i 0,.af,.i 0,.i 0,.i 0,.i 0,.i 0]) [],
 .Q 3 11 7 37] [34,35,36] (.r [.v 38 1,.A 39 2 4 6,.q 40 114 38 39,
 .A 41 1 11 5,.A 42 3 11 7,
 .o 43 (.lit 11 2 [.i 0,.i 0,.str [],.str [],.i 0,.af,.i 0,.i 0,.i 0,.i 0,.i 0] [0,1]) [.T 41,.T 42],
 .e 44 3 6,.k 45 2 44,
 .o 46 (.build [.i 0,.i 0,.str [],.str [],.i 0,.af,.i 0,.i 0,.i 0,.i 0,.i 0] [(0,1),(5,1),(6,1)]) [.t 40,.T 43,.t 45],
 .Q 1 11 5 46] (some []) [6,7,38,39,40,44,45]))))))
def s91:aL:={ eP:=91,mode:=.jY,aH:=2,aP:=4,dD:=[],results:=[.box 4 0 11 true],body:=
 (.s [
 .o 4 (.cq 0 [.i 0,.i 0,.str [],.str [],.i 0,.af,.i 0,.i 0,.i 0,.i 0,.i 0]) []] [] (.seq
 (.s [.v 8 1,.I 9 .eql 8 5] [8] (.cond (.T 9) [1] (.s [.v 10 0,
 .a 11 113 10,.Q 0 11 4 11] [0,10] .ret) [] .skip)) (.s [.v 12 0,.v 13 1,
 .I 14 .add 13 1,.q 15 91 12 14,
 .o 5 (.cq 1 [.i 0,.i 0,.str [],.str [],.i 0,.af,.i 0,.i 0,.i 0,.i 0,.i 0]) [],
 .Q 1 11 5 15] [12,13,14] (.seq (.block 0 (.loop TY)) (.s [.A 47 1 11 5,
 .Q 0 11 4 47] [5] .ret))))) }
def ZM:aL:={ eP:=92,mode:=.jY,aH:=2,aP:=4,dD:=[],results:=[.box 4 1 9 true],body:=
 (.s [.B 3 0 9 1,.o 4 (.cq 1 [.i 0,.str [],.str [],.i 0,.af,.af,.af,.i 0,.i 0]) []] []
 (.s [.v 7 0,.c 8 91 [.t 7,.i 0],
 .o 5 (.cq 2 [.i 0,.i 0,.str [],.str [],.i 0,.af,.i 0,.i 0,.i 0,.i 0,.i 0]) [],
 .Q 2 11 5 8] [7] (.seq (.s [.v 9 0,.c 10 21 [.t 9,.const (.str [61])],
 .o 11 (.un .not) [.t 10]] [9,10] (.cond (.T 11) [] (.s [.e 12 0 3,
 .n (.j9 0 1) [.t 12,.i 9]] [12] (.s [.A 13 2 11 5,
 .o 14 (.lit 11 1 [.i 0,.i 0,.str [],.str [],.i 0,.af,.i 0,.i 0,.i 0,.i 0,.i 0] [0]) [.T 13],
 .e 15 4 3,.Q 0 1 15 14] [15] (.seq (.s [.v 16 0,
 .c 17 21 [.t 16,.const (.str [59])],.v 18 17,.ey 19 0 5 18,.ky 20 2 19 18,
 .Iy 21 .neq 20 7 18,.O 22 18 21] [5,16,17,18,19,20,21] (.cond (.T 22) [] (.g [
 .v 23 0,.c 24 22 [.t 23,.i 2]] [23,24]) [] .skip)) (.s [.v 25 0,
 .c 26 25 [.t 25,.const (.str [59])]] [0,25,26] (.s [.A 27 0 9 3,.Q 1 9 4 27] [3]
 .ret))))) [] .skip)) (.seq (.s [.e 28 0 5,.k 29 2 28,
 .I 30 .neq 29 4,.v 31 30,.ey 32 0 5 31,.ky 33 2 32 31,
 .Iy 34 .neq 33 5 31,.O 35 31 34,.v 36 35,.ey 37 0 5 36,
 .ky 38 2 37 36,.Iy 39 .neq 38 6 36,
 .O 40 36 39] [28,29,30,31,32,33,34,35,36,37,38,39] (.cond (.T 40) [] (.g [.v 41 0,
 .c 42 22 [.t 41,.i 2]] [41,42]) [] .skip)) (.s [.v 43 0,
 .c 44 25 [.t 43,.const (.str [61])]] [43,44] (.s [.v 45 0,.c 46 91 [.t 45,.i 0],
 .o 6 (.cq 3 [.i 0,.i 0,.str [],.str [],.i 0,.af,.i 0,.i 0,.i 0,.i 0,.i 0]) [],
 .Q 3 11 6 46] [45] (.s [.v 47 0,.c 48 25 [.t 47,.const (.str [59])]] [0,47,48] (.seq (.s [.e 49 0 5,.k 50 2 49,.I 51 .eql 50 4] [49,50]
 (.cond (.T 51) [] (.s [.e 52 0 3,.n (.j9 0 1) [.t 52,.i 3]] [52] (.s [
 .e 53 2 5,.k 54 2 53,.e 55 1 3,.S 0 1 55 54] [5,53,54,55] (.s [.A 56 3 11 6,
 .o 57 (.lit 11 1 [.i 0,.i 0,.str [],.str [],.i 0,.af,.i 0,.i 0,.i 0,.i 0,.i 0] [0]) [.T 56],
 .e 58 4 3,.Q 0 1 58 57] [6,58] (.s [.A 59 0 9 3,
 .Q 1 9 4 59] [3] .ret)))) [] .skip)) (.s [.e 60 0 3,
 .n (.j9 0 1) [.t 60,.i 4]] [60] (.s [.A 61 2 11 5,.A 62 3 11 6,
 .o 63 (.lit 11 2 [.i 0,.i 0,.str [],.str [],.i 0,.af,.i 0,.i 0,.i 0,.i 0,.i 0] [0,1]) [.T 61,.T 62],
 .e 64 4 3,.Q 0 1 64 63] [5,6,64] (.s [.A 65 0 9 3,
 .Q 1 9 4 65] [3] .ret))))))))))) }
def s93:aL:={ eP:=93,mode:=.pure,aH:=2,aP:=0,dD:=[],results:=[.tmp 4 false],body:=
 (.s [.m 4 (.b false)] [4] (.s [.w 5 0,.v 6 1,.c 7 115 [.T 5,.t 6],
 .I 8 .geq 7 0,.v 4 8] [1,6,7,8] .ret)) }
def s94:aL:={ eP:=94,mode:=.jY,aH:=3,aP:=3,dD:=[],results:=[.box 6 1 3 true],body:=
 (.s [.o 4 (.vn 0 2) [.t 1],.G 6 1 [.i 0,.i 0,.i 0]] [1] (.seq (.r [.v 10 0,
 .N 11 10,.E 12 0 11,.D 13 12,.A 14 0 2 4,
 .c 15 116 [.T 13,.t 14],.w 9 15,.x 16 0 9,.x 17 1 9,
 .G 7 2 [.i 0,.i 0,.i 0],.S 2 3 7 16,.v 8 17] (some []) [4,9,10,14,16,17]) (.seq (.s [.v 18 8,.o 19 (.un .not) [.t 18]] [8,18] (.cond (.T 19) [] (.g [.v 20 0,.v 21 2,
 .q 22 73 20 21] [0,2,20,21,22]) [0,2] .skip)) (.s [.A 23 2 3 7,
 .S 1 3 6 23] [7,23] .ret)))) }
def m9:aL:={ eP:=95,mode:=.jY,aH:=2,aP:=4,dD:=[],results:=[.box 4 1 9 true],body:=
 (.s [.B 3 0 9 1,.o 4 (.cq 1 [.i 0,.str [],.str [],.i 0,.af,.af,.af,.i 0,.i 0]) []] []
 (.s [.e 8 0 3,.k 9 0 8,.e 10 7 3,.k 11 0 10,
 .o 12 (.build [.i 0,.str [],.str [],.i 0,.af,.af,.af,.i 0,.i 0] [(0,1),(7,1)]) [.t 9,.t 11],
 .o 5 (.cq 2 [.i 0,.str [],.str [],.i 0,.af,.af,.af,.i 0,.i 0]) [],.Q 2 9 5 12] [8,9,10,11]
 (.seq (.r [.c 13 117 [],.v 14 0,.A 15 0 9 3,.p 16 118 14 15,
 .G 6 3 [.i 0,.i 0,.i 0],.S 3 3 6 13,.v 7 16] (some []) [13,14,16]) (.seq (.s [
 .v 17 7,.v 18 17,.ey 19 0 3 18,.ky 20 0 19 18,
 .Iy 21 .eql 20 1 18,.vy 22 21 18,.ez 23 0 3 22,.kz 24 0 23 22,
 .Iz 25 .eql 24 2 22,.y 26 .pick [.t 22,.b true,.t 25] 18,
 .O 27 18 26] [17,18,19,20,21,22,23,24,25,26] (.cond (.T 27) [7] (.seq (.r [.v 29 0,
 .N 30 29,.E 31 4 30,.D 32 31,.e 33 2 3,
 .A 34 0 2 33,.c 35 116 [.T 32,.t 34],.w 28 35,.x 36 0 28,.x 37 1 28,
 .S 3 3 6 36,.v 7 37] (some []) [28,29,33,34,36,37]) (.g [.e 38 2 3,
 .A 39 0 2 38,.e 40 2 5,.S 2 2 40 39] [38,39,40])) [] .skip)) (.seq (.s [
 .v 41 7,.o 42 (.un .not) [.t 41]] [7,41] (.cond (.T 42) [5,6] (.s [.v 43 0,.e 44 7 3,
 .k 45 0 44,.q 46 119 43 45] [0,3,43,44,45,46] (.s [
 .o 47 (.build [.i 0,.str [],.str [],.i 0,.af,.af,.af,.i 0,.i 0] []) [],.Q 1 9 4 47] [] .ret)) []
 .skip)) (.seq (.s [.e 48 0 3,.k 49 0 48,
 .I 50 .eql 49 9] [48,49] (.cond (.T 50) [] (.g [.v 51 0,.e 52 4 3,
 .k 53 0 52,.Z 54 11 53 0,.L 55 11 54,
 .p 56 120 51 55,
 .o 57 (.lit 11 1 [.i 0,.i 0,.str [],.str [],.i 0,.af,.i 0,.i 0,.i 0,.i 0,.i 0] [0]) [.T 56],
 .e 58 4 5,.Q 2 1 58 57] [51,52,58]) [] (.g [.v 59 0,.e 60 4 3,
 .k 61 0 60,.p 62 121 59 61,.e 63 4 5,.Q 2 1 63 62] [59,60,63]))) (.seq
 (.s [.v 64 0,.a 65 46 64] [64] (.cond (.T 65) [0,3,5,6] (.s [
 .o 66 (.build [.i 0,.str [],.str [],.i 0,.af,.af,.af,.i 0,.i 0] []) [],.Q 1 9 4 66] [] .ret) []
 .skip)) (.seq (.s [.e 67 0 3,.k 68 0 67,.I 69 .eql 68 1,
 .v 70 69,.ez 71 0 3 70,.kz 72 0 71 70,.Iz 73 .eql 72 2 70,
 .P 74 70 73,.v 75 74,.ez 76 0 3 75,.kz 77 0 76 75,
 .Iz 78 .eql 77 3 75,.P 79 75 78] [67,68,69,70,71,72,73,74,75,76,77,78]
 (.cond (.T 79) [] (.g [.e 80 1 3,.k 81 0 80,.e 82 1 5,
 .S 2 1 82 81] [80,81,82]) [] .skip)) (.s [.v 84 0,.A 85 2 9 5,
 .A 86 3 3 6,.c 87 122 [.t 84,.T 85,.t 86],.w 83 87,.x 88 0 83,.u 89 1 83,
 .e 90 8 5,.S 2 1 90 88,.v 7 89] [6,84,86,88,89,90] (.seq (.s [.v 91 7,
 .o 92 (.un .not) [.t 91]] [7,91] (.cond (.T 92) [5] (.s [.v 93 0,.e 94 7 3,
 .k 95 0 94,.q 96 119 93 95] [0,3,93,94,95,96] (.s [
 .o 97 (.build [.i 0,.str [],.str [],.i 0,.af,.af,.af,.i 0,.i 0] []) [],.Q 1 9 4 97] [] .ret)) []
 .skip)) (.seq (.s [.e 98 0 3,.k 99 0 98,.I 100 .eql 99 5,
 .v 101 100,.ez 102 0 3 101,.kz 103 0 102 101,.Iz 104 .eql 103 6 101,
 .P 105 101 104] [98,99,100,101,102,103,104] (.cond (.T 105) [] (.g [.v 106 0,
 .e 107 5 3,.k 108 0 107,.p 109 75 106 108,.e 110 5 5,
 .Q 2 1 110 109] [106,107,110]) [] .skip)) (.seq (.s [.e 111 0 3,
 .k 112 0 111,.I 113 .eql 112 5] [111,112] (.cond (.T 113) [] (.g [.v 114 0,
 .e 115 6 3,.k 116 0 115,.p 117 75 114 116,.e 118 6 5,
 .Q 2 1 118 117] [0,3,114,115,118]) [0,3] .skip)) (.s [.A 119 2 9 5,
 .Q 1 9 4 119] [5] .ret))))))))))))) }
def TZ:bN:=
 (.s [.J 12 .lss 11 10] [] (.seq (.w 12 [9,10,11] 0) (.seq (.block 1 (.s [
 .Y 13 11 9 11,.L 14 11 13,
 .o 7 (.cq 1 [.i 0,.i 0,.str [],.str [],.i 0,.af,.i 0,.i 0,.i 0,.i 0,.i 0]) [],
 .Q 1 11 7 14] [] (.g [.v 15 0,.A 16 1 11 7,.v 17 2,
 .c 18 96 [.t 15,.T 16,.T 17]] [7,15,18]))) (.g [.I 19 .add 11 1,.v 11 19] [19]))))
def s96:aL:={ eP:=96,mode:=.jY,aH:=3,aP:=2,dD:=[],results:=[],body:=
 (.s [.B 4 0 11 1] [] (.seq (.s [.e 8 5 4,.k 9 0 8,
 .h 10 9,.m 11 (.i 0)] [8] (.block 0 (.loop TZ))) (.s [.e 20 0 4,
 .k 21 0 20,.I 22 .eql 21 4,.v 23 22,.ey 24 10 4 23,
 .ky 25 0 24 23,.Iy 26 .geq 25 0 23,.O 27 23 26,
 .v 28 27,.y 29 .move [.T 2] 28,.ey 30 10 4 28,.ky 31 0 30 28,.y 32 (.indexAddr 1) [.T 29,.t 31] 28,
 .Dy 33 32 28,.y 34 (.un .not) [.t 33] 28,.O 35 28 34,.v 36 35,
 .vy 37 0 36,.y 38 .nilCheck [.t 37] 36,.Ey 39 0 38 36,.Ey 40 0 39 36,.Dy 41 40 36,
 .Iy 42 .eql 41 0 36,
 .O 43 36 42] [2,20,21,22,23,24,25,26,27,28,29,30,31,32,33,34,35,36,37,38,39,40,41,42] (.cond (.T 43) [] (.g [
 .v 44 0,.e 45 6 4,.k 46 0 45,
 .o 47 (.build [.i 0,.i 0] [(0,1),(1,1)]) [.i 3,.t 46],.N 48 44,.E 49 0 48,
 .R 2 49 47] [0,4,44,45,46,47]) [0,4] .skip)))) }
def T1:bN:=
 (.seq (.s [.v 7 1,.N 8 7,.E 9 2 8,.D 10 9,.o 11 (.un .not) [.t 10],
 .v 12 11,.vy 13 0 12,.y 14 (.call 98) [.t 13] 12,.O 15 12 14] [7,10,11,12,13,14]
 (.w 15 [0,1,5] 0)) (.block 1 (.s [.v 16 0,.v 17 1,.e 18 4 5,
 .k 19 0 18,.Z 20 11 19 0,.L 21 11 20,
 .c 22 123 [.t 16,.t 17,.T 21],.v 6 22] [16,17,18,22] (.seq (.s [.v 23 0,.a 24 31 23,
 .v 25 24,.vz 26 6 25,.Iz 27 .eql 26 0 25,
 .P 28 25 27] [6,23,24,25,26,27] (.cond (.T 28) [0,1,5] .ret [] .skip)) (.g [.v 29 0,
 .v 30 1,.e 31 5 5,.k 32 0 31,.c 33 49 [.t 29,.t 30,.T 32]] [29,30,31,33])))))
def s97:aL:={ eP:=97,mode:=.yK,aH:=3,aP:=1,dD:=[],results:=[],body:=
 (.s [.B 5 0 9 2] [] (.block 0 (.loop T1))) }
def s98:aL:={ eP:=98,mode:=.jY,aH:=1,aP:=0,dD:=[],results:=[.tmp 2 false],body:=
 (.s [.m 2 (.b false)] [2] (.seq (.s [.v 3 0,.a 4 31 3] [3] (.cond (.T 4) [0]
 (.s [.m 2 (.b false)] [] .ret) [] .skip)) (.seq (.seq (.r [.v 5 0,.N 6 5,
 .E 7 10 6,.E 8 3 7,.D 9 8,.v 10 0,.N 11 10,
 .E 12 7 11,.D 13 12,.J 14 .geq 9 13] (some []) [5,9,10,13]) (.cond (.T 14) [] (.s [
 .v 15 0,.N 16 15,.E 17 10 16,.E 18 0 17,
 .n (.store 1) [.T 18,.i 3]] [0,15] (.s [.m 2 (.b false)] [] .ret)) [] .skip)) (.s [
 .v 19 0,.N 20 19,.E 21 10 20,.E 22 3 21,.D 23 22,
 .I 24 .add 23 1,.N 25 19,.E 26 10 25,.E 27 3 26,
 .R 1 27 24] [0,19,23,24] (.s [.m 2 (.b true)] [] .ret))))) }
def s99:aL:={ eP:=99,mode:=.yK,aH:=3,aP:=2,dD:=[],results:=[],body:=
 (.s [.B 5 0 9 2] [] (.s [.e 9 4 5,.k 10 0 9,
 .Z 11 11 10 0,.L 12 11 11,
 .o 6 (.cq 1 [.i 0,.i 0,.str [],.str [],.i 0,.af,.i 0,.i 0,.i 0,.i 0,.i 0]) [],
 .Q 1 11 6 12] [9] (.seq (.r [.v 14 0,.v 15 1,.e 16 5 6,
 .k 17 1 16,.e 18 4 5,.k 19 0 18,
 .o 20 (.slice false true false false 11) [.T 19,.i 1],.o 21 (.lit 1 2 [.af] [0,1]) [.T 17,.T 20],.c 22 124 [.T 21],
 .c 23 100 [.t 14,.t 15,.T 22],.w 13 23,.x 24 0 13,.x 25 1 13,.w 7 24,
 .v 8 25] (some []) [1,5,13,14,15,16,18,25]) (.seq (.s [.v 26 8,.o 27 (.un .not) [.t 26]] [8,26]
 (.cond (.T 27) [0,6,7] .ret [] .skip)) (.seq (.s [.e 28 0 6,.k 29 1 28,
 .I 30 .eql 29 5] [28,29] (.cond (.T 30) [] (.seq (.r [.v 31 0,.v 32 0,
 .N 33 32,.E 34 5 33,.D 35 34,.v 36 7,
 .Z 37 1 36 0,.D 38 37,.e 39 10 6,.k 40 1 39,
 .v 41 7,.Z 42 1 41 1,.D 43 42,.c 44 125 [.t 35,.t 38,.t 40,.t 43],
 .q 45 48 31 44] (some []) [0,6,7,31,32,35,38,39,40,43,44,45]) .ret) [6] .skip)) (.r [.v 46 0,.v 47 0,
 .N 48 47,.E 49 5 48,.D 50 49,.v 51 7,
 .Z 52 1 51 0,.D 53 52,.v 54 7,.Z 55 1 54 1,
 .D 56 55,.v 57 7,.Z 58 1 57 2,.D 59 58,
 .c 60 125 [.t 50,.t 53,.t 56,.t 59],.q 61 48 46 60] (some []) [0,7,46,47,50,53,56,59,60,61])))))) }
def Ox:bN:=
 (.s [.J 14 .lss 13 12] [] (.seq (.w 14 [0,1,11,12,13] 0) (.seq (.block 1 (.s [
 .Y 15 11 11 13,.L 16 11 15,
 .o 10 (.cq 0 [.i 0,.i 0,.str [],.str [],.i 0,.af,.i 0,.i 0,.i 0,.i 0,.i 0]) [],
 .Q 0 11 10 16] [] (.s [.w 17 8,.v 18 0,.v 19 1,.A 20 0 11 10,
 .c 21 123 [.t 18,.t 19,.T 20],.o 22 (.lit 1 1 [.i 0] [0]) [.t 21],.o 23 (.append 1 8) [.T 17,.T 22],.w 8 23] [10,18,19,21]
 (.s [.v 24 0,.a 25 31 24] [24] (.cond (.T 25) [0,1,8,11,12,13] (.s [.o 6 .move [.const .af],
 .m 7 (.b false)] [] .ret) [] .skip))))) (.g [.I 26 .add 13 1,.v 13 26] [26]))))
def abx:aL:={ eP:=100,mode:=.yK,aH:=3,aP:=1,dD:=[],results:=[.tmp 6 true,.tmp 7 false],body:=
 (.s [.o 6 .move [.const .af],.m 7 (.b false)] [6,7] (.s [.o 8 .move [.const .af]] [] (.seq (.s [.w 11 2,.h 12 11,.m 13 (.i 0)] [] (.block 0 (.loop Ox))) (.s [
 .w 27 8,.w 6 27,.m 7 (.b true)] [] .ret)))) }
def T2:aL:={ eP:=101,mode:=.yK,aH:=3,aP:=0,dD:=[],results:=[.tmp 6 false],body:=
 (.s [.o 6 .move [.const .dV]] [6] (.seq (.s [.v 7 2,.I 8 .lss 7 0] [7]
 (.cond (.T 8) [1] (.s [.v 9 0,.N 10 9,.E 11 8 10,.D 12 11,
 .v 13 2,.o 14 (.td .sub) [.const (.i (-1)),.t 13],.X 15 1 12 14,.w 6 15] [0,2,9,13,14] .ret) [0]
 .skip)) (.s [.v 16 1,.N 17 16,.E 18 0 17,.D 19 18,.v 20 2,
 .X 21 1 19 20,.w 6 21] [1,2,16,20] .ret))) }
def pA:aL:={ eP:=102,mode:=.jY,aH:=2,aP:=1,dD:=[],results:=[.tmp 4 false],body:=
 (.s [.B 3 0 9 1,.m 4 (.b false)] [4] (.s [.m 5 (.i 1)] [] (.seq
 (.s [.e 6 0 3,.k 7 0 6] [6] (.block 0 (.s [
 .I 9 .eql 7 1,.v 8 9] [9] (.cond (.T 8) [0,5,7] (.g [.m 5 (.i 0)] []) []
 (.s [.I 11 .eql 7 4,.v 10 11] [11] (.cond (.T 10) [0,5,7] (.g [
 .m 5 (.i 2)] []) [] (.s [.I 13 .eql 7 7,.v 12 13] [13]
 (.cond (.T 12) [7] (.s [.v 14 0,.N 15 14,.E 16 5 15,.E 17 2 16,
 .D 18 17,.o 19 (.un .not) [.t 18]] [0,14,18] (.cond (.T 19) [5] (.g [.m 5 (.i 0)] []) []
 .skip)) [0] (.seq (.s [.I 21 .eql 7 2,.v 20 21] [21] (.cond (.t 20) [7] .skip [20] (.s [.I 22 .eql 7 3,.v 20 22] [22] (.cond (.t 20) [7] .skip [20] (.s [
 .I 23 .eql 7 5,.v 20 23] [23] (.cond (.t 20) [7] .skip [20] (.s [
 .I 24 .eql 7 6,.v 20 24] [24] (.cond (.t 20) [7] .skip [20] (.s [
 .I 25 .eql 7 8,.v 20 25] [25] (.cond (.t 20) [7] .skip [20] (.g [
 .I 26 .eql 7 9,.v 20 26] [7,26]))))))))))) (.cond (.T 20) [] .skip [3,5] (.s [
 .m 4 (.b false)] [] .ret))))))))))) (.seq (.s [.e 27 4 3,.k 28 0 27,
 .H 29 28,.v 30 5,.J 31 .neq 29 30] [5,27,29,30] (.cond (.T 31) [3] (.s [
 .m 4 (.b false)] [] .ret) [] .skip)) (.seq (.s [.e 32 0 3,.k 33 0 32,
 .I 34 .eql 33 4] [32,33] (.cond (.T 34) [] (.s [.e 35 4 3,
 .k 36 0 35,.Z 37 11 36 0,.E 38 0 37,.D 39 38,
 .I 40 .eql 39 5,.v 41 40,.ez 42 4 3 41,.kz 43 0 42 41,
 .z 44 (.indexAddr 11) [.T 43,.i 0] 41,.Ez 45 0 44 41,.Dz 46 45 41,
 .Iz 47 .eql 46 6 41,.P 48 41 47,
 .v 4 48] [3,35,39,40,41,42,43,44,45,46,47,48] .ret) [] .skip)) (.s [.e 49 0 3,
 .k 50 0 49,.I 51 .neq 50 9,.v 52 51,.ez 53 4 3 52,
 .kz 54 0 53 52,.z 55 (.indexAddr 11) [.T 54,.i 0] 52,.Ez 56 0 55 52,
 .Dz 57 56 52,.Iz 58 .eql 57 7 52,.P 59 52 58,
 .v 4 59] [3,49,50,51,52,53,54,55,56,57,58,59] .ret)))))) }
def Xt:aL:={ eP:=103,mode:=.jY,aH:=2,aP:=0,dD:=[],results:=[],body:=
 (.s [.v 4 0,.a 5 53 4] [4] (.cond (.T 5) [] (.g [.v 6 0,.v 7 1,
 .a 8 79 7,.N 9 6,.E 10 12 9,.R 2 10 8] [0,1,6,7,8]) [0,1] .skip)) }
def rm:bN:=
 (.seq (.s [.v 50 7,.e 51 5 3,.k 52 0 51,.H 53 52,
 .J 54 .lss 50 53,.v 55 54,.vy 56 0 55,.y 57 (.call 53) [.t 56] 55,
 .O 58 55 57] [50,51,53,54,55,56,57] (.w 58 [7] 0)) (.seq (.block 1 (.r [
 .e 61 5 6,.D 62 61,.v 63 0,.e 64 5 3,.k 65 0 64,
 .v 66 7,.X 67 11 65 66,.L 68 11 67,.p 69 105 63 68,.h 70 62,
 ⟨some 71,.lit 11 1 [.i 0,.i 0,.str [],.str [],.i 0,.af,.i 0,.i 0,.i 0,.i 0,.i 0] [0],[.const (.agg [.i 0,.i 0,.str [],.str [],.i 0,.af,.i 0,.i 0,.i 0,.i 0,.i 0])],none⟩,
 .o 72 (.gu 11 120) [.t 62,.T 71],.Y 73 11 72 70,.n (.store 11) [.T 73,.T 69],.e 74 5 6,
 .R 1 74 72] (some [(1,8),(9,8),(12,15),(100013,15),(1400013,15)]) [62,63,64,66,70,72])) (.g [.v 59 7,
 .I 60 .add 59 1,.v 7 60] [59,60])))
def pB:aL:={ eP:=104,mode:=.jY,aH:=2,aP:=2,dD:=[],results:=[.box 4 1 11 true],body:=
 (.s [.B 3 0 11 1,
 .o 4 (.cq 1 [.i 0,.i 0,.str [],.str [],.i 0,.af,.i 0,.i 0,.i 0,.i 0,.i 0]) []] [] (.s [.e 9 0 3,.k 10 0 9,.a 11 126 10,.v 5 11] [9,10,11] (.seq (.s [.v 12 5,.o 13 (.td .eql) [.t 12,.const (.i (-2))],.v 14 13,.vz 15 5 14,
 .Iz 16 .geq 15 0 14,.vz 17 16 14,.ey 18 5 3 17,.ky 19 0 18 17,
 .Hy 20 19 17,.vy 21 5 17,.Jy 22 .neq 20 21 17,.z 23 .pick [.t 17,.t 22,.b false] 14,
 .P 24 14 23,.v 25 24,.ez 26 0 3 25,.kz 27 0 26 25,
 .Iz 28 .eql 27 2 25,.vz 29 28 25,.ey 30 1 3 29,.ky 31 0 30 29,
 .Iy 32 .neq 31 0 29,.z 33 .pick [.t 29,.t 32,.b false] 25,.vz 34 33 25,.ey 35 1 3 34,
 .ky 36 0 35 34,.Iy 37 .neq 36 1 34,.z 38 .pick [.t 34,.t 37,.b false] 25,
 .P 39 25 38] [5,12,13,14,15,16,17,18,19,20,21,22,23,24,25,26,27,28,29,30,31,32,33,34,35,36,37,38] (.cond (.T 39) []
 (.s [.v 40 0,.e 41 6 3,.k 42 0 41,
 .q 43 103 40 42] [0,3,40,41,42,43] (.s [
 .o 44 (.build [.i 0,.i 0,.str [],.str [],.i 0,.af,.i 0,.i 0,.i 0,.i 0,.i 0] []) [],
 .Q 1 11 4 44] [] .ret)) [] .skip)) (.s [.e 45 0 3,.k 46 0 45,
 .e 47 6 3,.k 48 0 47,
 .o 49 (.build [.i 0,.i 0,.str [],.str [],.i 0,.af,.i 0,.i 0,.i 0,.i 0,.i 0] [(0,1),(6,1)]) [.t 46,.t 48],
 .o 6 (.alloc [.i 0,.i 0,.str [],.str [],.i 0,.af,.i 0,.i 0,.i 0,.i 0,.i 0]) [],
 .n (.store 11) [.t 6,.T 49]] [45,46,47,48] (.seq (.s [.m 7 (.i 0)] [] (.block 0 (.loop rm))) (.seq (.s [.v 75 0,.a 76 53 75,.o 77 (.un .not) [.t 76]] [75,76] (.cond (.T 77) [0,3,6] (.s [
 .o 78 (.build [.i 0,.i 0,.str [],.str [],.i 0,.af,.i 0,.i 0,.i 0,.i 0,.i 0] []) [],
 .Q 1 11 4 78] [] .ret) [] .skip)) (.s [.m 8 (.b false)] [8] (.seq (.s [
 .e 79 0 3,.k 80 0 79,.I 81 .geq 80 12] [79,80] (.cond (.T 81) []
 (.g [.v 82 0,.q 83 127 82 6,.v 8 83] [82,83]) [] (.g [.v 84 0,
 .A 85 0 11 3,.c 86 128 [.t 84,.T 85,.t 6],.v 8 86] [84,86]))) (.seq (.s [.v 87 8,
 .o 88 (.un .not) [.t 87]] [8,87] (.cond (.T 88) [6] (.s [.v 89 0,.e 90 6 3,
 .k 91 0 90,.q 92 103 89 91] [0,3,89,90,91,92] (.s [
 .o 93 (.build [.i 0,.i 0,.str [],.str [],.i 0,.af,.i 0,.i 0,.i 0,.i 0,.i 0] []) [],
 .Q 1 11 4 93] [] .ret)) [0,3] .skip)) (.seq (.seq (.uE 6 5) (.g [.L 94 11 6,
 .Q 1 11 4 94] [])) .ret)))))))))) }
def MM:aL:={ eP:=105,mode:=.jY,aH:=2,aP:=3,dD:=[],results:=[.box 4 1 11 true],body:=
 (.s [.B 3 0 11 1,
 .o 4 (.cq 1 [.i 0,.i 0,.str [],.str [],.i 0,.af,.i 0,.i 0,.i 0,.i 0,.i 0]) []] [] (.s [.v 6 0,.A 7 0 11 3,.p 8 104 6 7,
 .o 5 (.cq 2 [.i 0,.i 0,.str [],.str [],.i 0,.af,.i 0,.i 0,.i 0,.i 0,.i 0]) [],
 .Q 2 11 5 8] [6] (.seq (.s [.v 9 0,.a 10 53 9,.v 11 10,
 .ey 12 7 5 11,.y 13 (.gW 2 true 3 false) [.t 12] 11,.y 14 (.build [.i 0,.i 0,.i 0] []) [] 11,
 .y 15 (.ua (.flat [.int,.int,.int]) false) [.t 13,.t 14] 11,.O 16 11 15] [9,10,11,12,13,14,15] (.cond (.T 16) []
 (.g [.v 17 0,.e 18 6 3,.k 19 0 18,
 .q 20 103 17 19] [0,3,17,18,19,20]) [0,3] .skip)) (.s [.A 21 2 11 5,
 .Q 1 11 4 21] [5] .ret)))) }
def Oy:bN:=
 (.seq (.s [.v 9 7,.v 10 0,.N 11 10,.E 12 11 11,.D 13 12,
 .H 14 13,.J 15 .lss 9 14] [9,10,14] (.w 15 [7] 0)) (.seq (.block 1 (.s [
 .v 18 0,.N 19 18,.E 20 11 19,.D 21 20,.v 22 7,
 .X 23 4 21 22,.E 24 0 23,.D 25 24,.v 26 1,
 .J 27 .eql 25 26] [18,22,25,26] (.cond (.T 27) [1] (.seq (.r [.v 28 7,.v 29 0,.N 30 29,
 .E 31 11 30,.D 32 31,.v 33 7,.X 34 4 32 33,.E 35 1 34,
 .L 36 3 35,.v 4 28,.S 0 3 5 36,.m 6 (.b true)] (some []) [0,7,28,29,33,36]) .ret) []
 .skip))) (.g [.v 16 7,.I 17 .add 16 1,.v 7 17] [16,17])))
def Oz:bN:=
 (.seq (.s [.v 37 8,.v 38 0,.N 39 38,.E 40 0 39,.E 41 1 40,
 .D 42 41,.H 43 42,.J 44 .lss 37 43] [37,38,43] (.w 44 [0,1,8] 2))
 (.seq (.block 3 (.s [.v 47 0,.N 48 47,.E 49 0 48,.E 50 1 49,
 .D 51 50,.v 52 8,.X 53 4 51 52,.E 54 0 53,
 .D 55 54,.v 56 1,.J 57 .eql 55 56] [47,52,55,56] (.cond (.T 57) [1] (.seq (.r [
 .v 58 8,.o 59 (.td .sub) [.const (.i (-1)),.t 58],.v 60 0,.N 61 60,.E 62 0 61,
 .E 63 1 62,.D 64 63,.v 65 8,.X 66 4 64 65,.E 67 1 66,
 .L 68 3 67,.v 4 59,.S 0 3 5 68,.m 6 (.b true)] (some []) [0,8,58,59,60,65,68])
 .ret) [] .skip))) (.g [.v 45 8,.I 46 .add 45 1,.v 8 46] [45,46])))
def aby:aL:={ eP:=106,mode:=.jY,aH:=2,aP:=1,dD:=[],results:=[.tmp 4 false,.box 5 0 3 true,.tmp 6 false],body:=
 (.s [.m 4 (.i 0),.G 5 0 [.i 0,.i 0,.i 0],.m 6 (.b false)] [4,6]
 (.seq (.s [.m 7 (.i 0)] [] (.block 0 (.loop Oy))) (.seq (.s [
 .m 8 (.i 0)] [] (.block 2 (.loop Oz))) (.s [.o 69 (.build [.i 0,.i 0,.i 0] []) [],
 .m 4 (.i 0),.S 0 3 5 69,.m 6 (.b false)] [69] .ret)))) }
def abz:aL:={ eP:=107,mode:=.pure,aH:=0,aP:=1,dD:=[],results:=[.box 0 0 3 true],body:=
 (.s [.G 0 0 [.i 0,.i 0,.i 0]] [] (.s [
 .o 1 (.build [.i 0,.i 0,.i 0] [(0,1)]) [.i 2],.S 0 3 0 1] [1] .ret)) }
def abA:aL:={ eP:=108,mode:=.pure,aH:=0,aP:=1,dD:=[],results:=[.box 0 0 3 true],body:=
 (.s [.G 0 0 [.i 0,.i 0,.i 0]] [] (.s [
 .o 1 (.build [.i 0,.i 0,.i 0] [(0,1)]) [.i 1],.S 0 3 0 1] [1] .ret)) }
def MN:aL:={ eP:=109,mode:=.jY,aH:=1,aP:=0,dD:=[],results:=[.tmp 2 false],body:=
 (.s [.m 2 (.b false)] [2] (.seq (.s [.v 3 0,.a 4 35 3] [3] (.cond (.T 4) [0]
 (.s [.m 2 (.b false)] [] .ret) [] .skip)) (.seq (.seq (.r [.v 5 0,.N 6 5,
 .E 7 7 6,.E 8 3 7,.D 9 8,.v 10 0,.N 11 10,
 .E 12 6 11,.D 13 12,.J 14 .geq 9 13] (some []) [5,9,10,13]) (.cond (.T 14) [] (.s [
 .v 15 0,.N 16 15,.E 17 7 16,.E 18 0 17,
 .n (.store 1) [.T 18,.i 3]] [0,15] (.s [.m 2 (.b false)] [] .ret)) [] .skip)) (.s [
 .v 19 0,.N 20 19,.E 21 7 20,.E 22 3 21,.D 23 22,
 .I 24 .add 23 1,.N 25 19,.E 26 7 25,.E 27 3 26,
 .R 1 27 24] [0,19,23,24] (.s [.m 2 (.b true)] [] .ret))))) }
def MO:aL:={ eP:=110,mode:=.yK,aH:=2,aP:=1,dD:=[],results:=[.tmp 4 false],body:=
 (.s [.B 3 0 11 1,.m 4 (.i 0)] [4] (.seq (.s [.v 7 0,.a 8 109 7,
 .o 9 (.un .not) [.t 8]] [7,8] (.cond (.T 9) [0,3] (.s [.m 4 (.i 0)] [] .ret) [] .skip)) (.s [
 .v 10 0,.e 11 5 3,.k 12 0 11,.p 13 112 10 12,.w 5 13] [10,11]
 (.seq (.s [.v 14 0,.a 15 35 14] [14] (.cond (.T 15) [0,3,5] (.s [
 .m 4 (.i 0)] [] .ret) [] .skip)) (.seq (.s [.e 16 0 3,
 .k 17 0 16] [16] (.block 0 (.seq (.s [.I 19 .eql 17 1,
 .v 18 19] [19] (.cond (.t 18) [] .skip [18] (.g [.I 20 .eql 17 2,.v 18 20] [20])))
 (.cond (.T 18) [0,5,17] (.s [.e 21 1 3,.k 22 0 21,.v 4 22] [3,21,22] .ret) []
 (.s [.I 24 .eql 17 3,.v 23 24] [24] (.cond (.T 23) [0,3,5,17] (.s [
 .m 4 (.i 0)] [] .ret) [] (.s [.I 26 .eql 17 4,.v 25 26] [26]
 (.cond (.T 25) [5,17] (.seq (.s [.e 27 10 3,.k 28 0 27,
 .I 29 .lss 28 0] [27,28] (.cond (.T 29) [] (.seq (.r [.v 30 0,.N 31 30,
 .E 32 12 31,.D 33 32,.e 34 10 3,.k 35 0 34,
 .o 36 (.td .sub) [.const (.i (-1)),.t 35],.X 37 1 33 36,.D 38 37,
 .v 4 38] (some []) [0,3,30,34,35,36,38]) .ret) [] .skip)) (.seq (.r [.v 39 0,.N 40 39,
 .E 41 14 40,.D 42 41,.e 43 10 3,.k 44 0 43,
 .X 45 1 42 44,.D 46 45,.v 4 46] (some []) [0,3,39,43,44,46]) .ret)) [] (.s [
 .I 48 .eql 17 5,.v 47 48] [48] (.cond (.T 47) [17] (.seq (.r [.v 49 0,.v 50 0,
 .N 51 50,.E 52 11 51,.w 53 5,.Z 54 1 53 0,
 .D 55 54,.e 56 10 3,.k 57 0 56,.c 58 130 [.T 52,.t 55,.t 57],
 .x 59 0 58,.x 60 1 58,.c 61 129 [.t 49,.t 59,.t 60],.v 4 61] (some []) [0,3,49,50,55,56,57,58,59,60,61])
 .ret) [] (.s [.I 63 .eql 17 6,.v 62 63] [63] (.cond (.T 62) [3,17] (.seq (.r [
 .v 64 0,.v 65 0,.N 66 65,.E 67 11 66,.v 68 5,
 .Z 69 1 68 0,.D 70 69,.v 71 5,.Z 72 1 71 1,
 .D 73 72,.c 74 130 [.T 67,.t 70,.t 73],.x 75 0 74,.x 76 1 74,
 .c 77 129 [.t 64,.t 75,.t 76],.v 4 77] (some []) [0,5,64,65,70,73,74,75,76,77]) .ret) [] (.s [
 .I 79 .eql 17 10,.v 78 79] [79] (.cond (.T 78) [3,17] (.seq (.r [.v 80 0,
 .v 81 0,.N 82 81,.E 83 11 82,.w 84 5,.Z 85 1 84 0,
 .D 86 85,.c 87 131 [.T 83,.t 86],.x 88 0 87,.x 89 1 87,
 .c 90 129 [.t 80,.t 88,.t 89],.v 4 90] (some []) [0,80,81,86,87,88,89,90]) .ret) [] (.s [
 .I 92 .eql 17 8,.v 91 92] [92] (.cond (.T 91) [5,17] (.seq (.r [.v 93 0,
 .N 94 93,.E 95 11 94,.v 96 0,.N 97 96,.E 98 0 97,
 .E 99 0 98,.E 100 0 99,.D 101 100,.e 102 7 3,
 .e 103 1 102,.k 104 0 103,.X 105 2 101 104,.E 106 1 105,
 .D 107 106,.H 108 107,.c 109 132 [.T 95,.t 108],
 .v 4 109] (some []) [0,3,93,96,102,103,104,108,109]) .ret) [] (.s [.I 111 .eql 17 9,
 .v 110 111] [111] (.cond (.T 110) [3,17] (.seq (.r [.v 112 0,.v 113 0,.N 114 113,
 .E 115 11 114,.w 116 5,.Z 117 1 116 0,.D 118 117,
 .c 119 133 [.T 115,.t 118],.x 120 0 119,.x 121 1 119,.c 122 129 [.t 112,.t 120,.t 121],
 .v 4 122] (some []) [0,112,113,118,119,120,121,122]) .ret) [] (.s [.I 124 .eql 17 11,
 .v 123 124] [124] (.cond (.T 123) [3,5,17] (.seq (.s [.v 125 0,.N 126 125,
 .E 127 5 126,.D 128 127,.H 129 128,
 .I 130 .eql 129 0] [125,129] (.cond (.T 130) [] (.s [.v 131 0,
 .c 132 55 [.t 131,.i 5]] [0,131,132] (.s [.m 4 (.i 0)] [] .ret)) [] .skip)) (.s [.v 133 0,.N 134 133,.E 135 5 134,.D 136 135,
 .Z 137 1 136 0,.D 138 137,.v 6 138] [133,138] (.s [
 .v 139 0,.v 140 0,.N 141 140,.E 142 5 141,.D 143 142,
 .o 144 (.slice false true false false 1) [.T 143,.i 1],.N 145 139,.E 146 5 145,
 .n (.store 1) [.T 146,.T 144]] [0,139,140] (.s [.v 147 6,.v 4 147] [6,147] .ret)))) [] (.seq (.s [
 .I 149 .eql 17 12,.v 148 149] [149] (.cond (.t 148) [] .skip [148] (.g [
 .I 150 .eql 17 13,.v 148 150] [150]))) (.cond (.T 148) [0,17] (.seq (.r [.e 151 0 3,
 .k 152 0 151,.w 153 5,.Z 154 1 153 0,.D 155 154,
 .q 156 134 152 155,.v 4 156] (some []) [3,151,152,155,156]) .ret) [] (.s [
 .I 158 .eql 17 7,.v 157 158] [17,158] (.cond (.T 157) [] (.s [.v 159 0,
 .e 160 10 3,.k 161 0 160,.w 162 5,.c 163 34 [.t 159,.t 161,.T 162],
 .v 4 163] [0,3,159,160,161,163] .ret) [] .skip)))))))))))))))))))))))) (.seq (.r [.v 164 0,.e 165 0 3,
 .k 166 0 165,.v 167 5,.Z 168 1 167 0,.D 169 168,
 .v 170 5,.Z 171 1 170 1,.D 172 171,.c 173 135 [.t 166,.t 169,.t 172],
 .x 174 0 173,.x 175 1 173,.c 176 129 [.t 164,.t 174,.t 175],
 .v 4 176] (some []) [0,3,5,164,165,166,169,172,173,174,175,176]) .ret)))))) }
def IE:aL:={ eP:=111,mode:=.yK,aH:=2,aP:=1,dD:=[],results:=[],body:=
 (.s [.B 3 0 9 1] [] (.s [.v 7 0,.e 8 4 3,.k 9 0 8,
 .Z 10 11 9 0,.E 11 5 10,.D 12 11,.p 13 112 7 12,
 .w 4 13] [7,8] (.seq (.s [.v 14 0,.a 15 35 14] [14] (.cond (.T 15) [0,3,4] .ret [] .skip)) (.s [.v 16 0,.e 17 4 3,.k 18 0 17,.Z 19 11 18 1,
 .L 20 11 19,.p 21 110 16 20,.v 5 21] [16,17,21] (.seq (.s [.v 22 0,
 .a 23 35 22] [22] (.cond (.T 23) [0,3,4,5] .ret [] .skip)) (.s [.e 24 4 3,
 .k 25 0 24,.Z 26 11 25 0,.E 27 10 26,
 .D 28 27,.v 6 28] [24,28] (.seq (.s [.e 29 4 3,
 .k 30 0 29,.Z 31 11 30 0,.E 32 0 31,.D 33 32,
 .I 34 .eql 33 6] [3,29,33] (.cond (.T 34) [6] (.g [.v 35 4,
 .Z 36 1 35 1,.D 37 36,.v 6 37] [37]) [] .skip)) (.r [
 .v 38 0,.v 39 0,.N 40 39,.E 41 11 40,.w 42 4,
 .Z 43 1 42 0,.D 44 43,.v 45 6,.v 46 5,
 .c 47 136 [.T 41,.t 44,.t 45,.t 46],.q 48 55 38 47] (some []) [0,5,6,38,39,44,45,46,47,48])))))))) }
def OA:bN:=
 (.seq (.s [.v 7 6,.v 8 1,.H 9 8,.J 10 .lss 7 9,.v 11 10,
 .vy 12 0 11,.y 13 (.call 35) [.t 12] 11,.y 14 (.un .not) [.t 13] 11,.O 15 11 14] [7,9,10,11,12,13,14]
 (.w 15 [0,1,6] 0)) (.seq (.block 1 (.g [.w 18 5,.v 19 0,.v 20 1,.v 21 6,
 .X 22 11 20 21,.L 23 11 22,.p 24 110 19 23,.o 25 (.lit 1 1 [.i 0] [0]) [.t 24],
 .o 26 (.append 1 8) [.T 18,.T 25],.w 5 26] [19,21,24])) (.g [.v 16 6,.I 17 .add 16 1,
 .v 6 17] [16,17])))
def abB:aL:={ eP:=112,mode:=.yK,aH:=2,aP:=0,dD:=[],results:=[.tmp 4 true],body:=
 (.s [.o 4 .move [.const .af]] [4] (.s [.o 5 .move [.const .af]] [] (.seq (.s [
 .m 6 (.i 0)] [] (.block 0 (.loop OA))) (.s [.w 27 5,.w 4 27] [] .ret)))) }
def T4:aL:={ eP:=113,mode:=.jY,aH:=1,aP:=3,dD:=[],results:=[.box 2 0 11 true],body:=
 (.s [
 .o 2 (.cq 0 [.i 0,.i 0,.str [],.str [],.i 0,.af,.i 0,.i 0,.i 0,.i 0,.i 0]) []] [] (.s [.v 6 0,.a 7 20 6,.o 3 (.cq 1 [.i 0,.str [],.i 0,.i 0]) [],
 .S 1 4 3 7] [6,7] (.s [.m 4 (.i 0)] [4] (.seq (.block 0 (.s [.v 13 0,
 .c 14 21 [.t 13,.const (.str [45])],.v 12 14] [13,14] (.cond (.T 12) [] (.g [.m 4 (.i 12)] []) []
 (.s [.v 16 0,.c 17 21 [.t 16,.const (.str [33])],.v 15 17] [16,17] (.cond (.T 15) [] (.g [
 .m 4 (.i 13)] []) [3] (.s [.v 8 0,.v 9 0,.a 10 138 9,
 .p 11 137 8 10,.Q 0 11 2 11] [0,8,9] .ret)))))) (.s [.v 18 0,.e 19 1 3,
 .k 20 1 19,.q 21 65 18 20] [18,19,20,21] (.s [.v 22 0,
 .c 23 91 [.t 22,.i 5],
 .o 5 (.cq 2 [.i 0,.i 0,.str [],.str [],.i 0,.af,.i 0,.i 0,.i 0,.i 0,.i 0]) [],
 .Q 2 11 5 23] [22] (.s [.v 24 0,.N 25 24,.E 26 2 25,
 .D 27 26,.I 28 .sub 27 1,.N 29 24,.E 30 2 29,
 .R 1 30 28] [0,24,27,28] (.s [.v 31 4,.A 32 2 11 5,
 .o 33 (.lit 11 1 [.i 0,.i 0,.str [],.str [],.i 0,.af,.i 0,.i 0,.i 0,.i 0,.i 0] [0]) [.T 32],
 .e 34 3 3,.k 35 1 34,
 .o 36 (.build [.i 0,.i 0,.str [],.str [],.i 0,.af,.i 0,.i 0,.i 0,.i 0,.i 0] [(0,1),(5,1),(6,1)]) [.t 31,.T 33,.t 35],
 .Q 0 11 2 36] [3,4,5,31,34,35] .ret)))))))) }
def yu:bN:=
 (.seq (.s [.v 23 7,.v 24 5,.v 25 0,.X 26 1 24 25,.D 27 26,
 .H 28 27,.J 29 .lss 23 28] [23,25,28] (.w 29 [0,3,5,6,7] 0)) (.seq (.block 1 (.seq (.r [
 .v 32 5,.v 33 0,.X 34 1 32 33,.D 35 34,.v 36 7,
 .X 37 1 35 36,.D 38 37,.e 39 1 3,.k 40 0 39,
 .J 41 .eql 38 40] (some []) [33,36,38,39,40]) (.cond (.T 41) [3,5] (.s [.w 42 6,.v 43 0,
 .X 44 1 42 43,.D 45 44,.v 46 7,.X 47 1 45 46,
 .D 48 47,.v 4 48] [0,7,43,46,48] .ret) [] .skip))) (.g [.v 30 7,
 .I 31 .add 30 1,.v 7 31] [30,31])))
def KF:aL:={ eP:=114,mode:=.pure,aH:=2,aP:=1,dD:=[],results:=[.tmp 4 false],body:=
 (.s [.o 3 (.vn 0 4) [.t 1],.m 4 (.i 0)] [1,4] (.seq (.s [.e 8 0 3,
 .k 9 0 8,.I 10 .neq 9 4] [8,9] (.cond (.T 10) [0,3] (.s [
 .m 4 (.i 0)] [] .ret) [] .skip)) (.s [.o 11 (.lit 1 1 [.str []] [0]) [.const (.str [124,124])],
 .o 12 (.lit 1 1 [.str []] [0]) [.const (.str [38,38])],
 .o 13 (.lit 1 4 [.str []] [0,1,2,3]) [.const (.str [60]),.const (.str [60,61]),.const (.str [61,61]),.const (.str [33,61])],
 .o 14 (.lit 1 2 [.str []] [0,1]) [.const (.str [43]),.const (.str [45])],
 .o 15 (.lit 1 3 [.str []] [0,1,2]) [.const (.str [42]),.const (.str [47]),.const (.str [37])],
 .o 16 (.lit 1 5 [.af] [0,1,2,3,4]) [.T 11,.T 12,.T 13,.T 14,.T 15],.w 5 16] [] (.s [
 .o 17 (.lit 1 1 [.i 0] [0]) [.i 24],.o 18 (.lit 1 1 [.i 0] [0]) [.i 23],
 .o 19 (.lit 1 4 [.i 0] [0,1,2,3]) [.i 19,.i 20,.i 21,.i 22],
 .o 20 (.lit 1 2 [.i 0] [0,1]) [.i 14,.i 15],
 .o 21 (.lit 1 3 [.i 0] [0,1,2]) [.i 16,.i 17,.i 18],
 .o 22 (.lit 1 5 [.af] [0,1,2,3,4]) [.T 17,.T 18,.T 19,.T 20,.T 21],.w 6 22] [] (.seq (.s [
 .m 7 (.i 0)] [] (.block 0 (.loop yu))) (.s [.m 4 (.i 0)] [] .ret)))))) }
def IF:bN:=
 (.s [.J 9 .lss 8 7] [] (.seq (.w 9 [0,1,7,8] 0) (.seq (.block 1 (.s [.v 10 8,
 .v 5 10] [10] (.s [.v 11 1,.v 12 0,.v 13 5,.X 14 1 12 13,
 .D 15 14,.J 16 .eql 11 15] [11,13,15] (.cond (.T 16) [0,1,7,8] (.s [.v 17 5,
 .v 4 17] [5,17] .ret) [5] .skip)))) (.g [.I 18 .add 8 1,.v 8 18] [18]))))
def T5:aL:={ eP:=115,mode:=.pure,aH:=2,aP:=0,dD:=[],results:=[.tmp 4 false],body:=
 (.s [.m 4 (.i 0)] [4] (.seq (.s [.v 6 0,.H 7 6,
 .m 8 (.i 0)] [] (.block 0 (.loop IF))) (.s [.o 4 .move [.const (.i (-1))]] [] .ret))) }
def zC:aL:={ eP:=116,mode:=.pure,aH:=2,aP:=2,dD:=[],results:=[.box 4 1 3 true,.tmp 5 false],body:=
 (.s [.o 3 (.vn 0 2) [.t 1],.G 4 1 [.i 0,.i 0,.i 0],.m 5 (.b false)] [1,5] (.seq
 (.s [.e 7 1 3,.k 8 0 7,.I 9 .lss 8 0,.v 10 9,
 .ez 11 1 3 10,.kz 12 0 11 10,.Iz 13 .gtr 12 3 10,
 .P 14 10 13] [7,8,9,10,11,12,13] (.cond (.T 14) [0,3] (.s [
 .o 15 (.build [.i 0,.i 0,.i 0] []) [],.S 1 3 4 15,.m 5 (.b false)] [15] .ret) [] .skip))
 (.seq (.s [.e 16 0 3,.k 17 0 16] [16] (.block 0 (.s [
 .o 19 (.td .eql) [.t 17,.const (.str [105,110,116])],.v 18 19] [19] (.cond (.T 18) [0,17] (.s [.e 20 1 3,
 .k 21 0 20,.o 22 (.build [.i 0,.i 0,.i 0] [(0,1),(2,1)]) [.i 1,.t 21],
 .S 1 3 4 22,.m 5 (.b true)] [3,20,21,22] .ret) [] (.s [
 .o 24 (.td .eql) [.t 17,.const (.str [98,111,111,108])],.v 23 24] [17,24] (.cond (.T 23) [0] (.s [.e 25 1 3,
 .k 26 0 25,.o 27 (.build [.i 0,.i 0,.i 0] [(0,1),(2,1)]) [.i 2,.t 26],
 .S 1 3 4 27,.m 5 (.b true)] [3,25,26,27] .ret) [] .skip)))))) (.s [.w 28 0,
 .e 29 0 3,.k 30 0 29,.c 31 115 [.T 28,.t 30],.v 6 31] [29,30,31] (.seq (.s [.v 32 6,.I 33 .lss 32 0] [32] (.cond (.T 33) [3,6] (.s [
 .o 34 (.build [.i 0,.i 0,.i 0] []) [],.S 1 3 4 34,.m 5 (.b false)] [34] .ret) [] .skip))
 (.s [.v 35 6,.e 36 1 3,.k 37 0 36,
 .o 38 (.build [.i 0,.i 0,.i 0] [(0,1),(1,1),(2,1)]) [.i 3,.t 35,.t 37],.S 1 3 4 38,
 .m 5 (.b true)] [3,6,35,36,37,38] .ret)))))) }
def abC:aL:={ eP:=117,mode:=.pure,aH:=0,aP:=1,dD:=[],results:=[.box 0 0 3 true],body:=
 (.s [.G 0 0 [.i 0,.i 0,.i 0]] [] (.s [
 .o 1 (.build [.i 0,.i 0,.i 0] []) [],.S 0 3 0 1] [1] .ret)) }
def pC:aL:={ eP:=118,mode:=.jY,aH:=2,aP:=1,dD:=[],results:=[.tmp 4 false],body:=
 (.s [.B 3 0 9 1,.m 4 (.b false)] [4] (.seq (.s [.e 5 0 3,
 .k 6 0 5] [5] (.block 0 (.s [.I 8 .eql 6 1,.v 7 8] [8]
 (.cond (.T 7) [0,6] (.s [.e 9 4 3,.k 10 0 9,.H 11 10,
 .I 12 .eql 11 0,.v 4 12] [3,9,11,12] .ret) [] (.s [.I 14 .eql 6 4,
 .v 13 14] [14] (.cond (.T 13) [0,6] (.s [.e 15 4 3,.k 16 0 15,
 .H 17 16,.I 18 .eql 17 2,.v 19 18,.ey 20 4 3 19,
 .ky 21 0 20 19,.Zy 22 11 21 0 19,.Ey 23 0 22 19,
 .Dy 24 23 19,.Iy 25 .eql 24 5 19,.vy 26 25 19,.ez 27 4 3 26,
 .kz 28 0 27 26,.z 29 (.indexAddr 11) [.T 28,.i 0] 26,.Ez 30 0 29 26,
 .Dz 31 30 26,.Iz 32 .eql 31 6 26,.y 33 .pick [.t 26,.b true,.t 32] 19,
 .O 34 19 33,.v 4 34] [3,15,17,18,19,20,21,22,23,24,25,26,27,28,29,30,31,32,33,34] .ret) [] (.s [.I 36 .eql 6 7,.v 35 36] [36] (.cond (.T 35) [6] (.s [.e 37 4 3,
 .k 38 0 37,.H 39 38,.I 40 .eql 39 1,.v 41 40,.vy 42 0 41,
 .y 43 .nilCheck [.t 42] 41,.Ey 44 5 43 41,.Ey 45 2 44 41,.Dy 46 45 41,
 .O 47 41 46,.v 48 47,.ez 49 4 3 48,.kz 50 0 49 48,
 .Hz 51 50 48,.Iz 52 .eql 51 0 48,.vz 53 52 48,.vy 54 0 53,.y 55 .nilCheck [.t 54] 53,
 .Ey 56 5 55 53,.Ey 57 2 56 53,.Dy 58 57 53,.y 59 (.un .not) [.t 58] 53,
 .z 60 .pick [.t 53,.t 59,.b false] 48,.P 61 48 60,
 .v 4 61] [0,3,37,39,40,41,42,43,44,45,46,47,48,49,50,51,52,53,54,55,56,57,58,59,60,61] .ret) [0] (.s [
 .I 63 .eql 6 9,.v 62 63] [63] (.cond (.T 62) [6] (.s [.e 64 4 3,
 .k 65 0 64,.H 66 65,.I 67 .eql 66 1,.v 68 67,
 .ey 69 4 3 68,.ky 70 0 69 68,.Zy 71 11 70 0 68,
 .Ey 72 0 71 68,.Dy 73 72 68,.Iy 74 .eql 73 7 68,
 .O 75 68 74,.v 4 75] [3,64,66,67,68,69,70,71,72,73,74,75] .ret) [] (.seq (.s [
 .I 77 .eql 6 2,.v 76 77] [77] (.cond (.t 76) [6] .skip [76] (.s [
 .I 78 .eql 6 3,.v 76 78] [78] (.cond (.t 76) [6] .skip [76] (.s [
 .I 79 .eql 6 5,.v 76 79] [79] (.cond (.t 76) [6] .skip [76] (.s [
 .I 80 .eql 6 6,.v 76 80] [80] (.cond (.t 76) [6] .skip [76] (.g [
 .I 81 .eql 6 8,.v 76 81] [6,81]))))))))) (.cond (.T 76) [] (.s [.e 82 4 3,
 .k 83 0 82,.H 84 83,.I 85 .eql 84 1,.v 4 85] [3,82,84,85]
 .ret) [3] .skip)))))))))))) (.s [.m 4 (.b false)] [] .ret))) }
def Xu:aL:={ eP:=119,mode:=.jY,aH:=2,aP:=0,dD:=[],results:=[],body:=
 (.s [.v 4 0,.a 5 46 4,.o 6 (.un .not) [.t 5]] [4,5] (.cond (.T 6) [] (.g [.v 7 0,
 .v 8 1,.o 9 (.build [.i 0,.i 0] [(0,1),(1,1)]) [.i 3,.t 8],.N 10 7,.E 11 12 10,
 .R 2 11 9] [0,1,7,8,9]) [0,1] .skip)) }
def IG:aL:={ eP:=120,mode:=.jY,aH:=2,aP:=3,dD:=[],results:=[.box 4 1 11 true],body:=
 (.s [.B 3 0 11 1,
 .o 4 (.cq 1 [.i 0,.i 0,.str [],.str [],.i 0,.af,.i 0,.i 0,.i 0,.i 0,.i 0]) []] [] (.seq
 (.s [.A 7 0 11 3,.c 8 139 [.T 7],.o 9 (.un .not) [.t 8]] [8] (.cond (.T 9) [] (.s [
 .v 10 0,.e 11 6 3,.k 12 0 11,.q 13 119 10 12] [0,3,10,11,12,13] (.s [.o 14 (.build [.i 0,.i 0,.str [],.str [],.i 0,.af,.i 0,.i 0,.i 0,.i 0,.i 0] []) [],
 .Q 1 11 4 14] [] .ret)) [] .skip)) (.s [.A 15 0 11 3,.c 16 140 [.T 15],
 .o 5 (.cq 2 [.i 0,.i 0,.str [],.str [],.i 0,.af,.i 0,.i 0,.i 0,.i 0,.i 0]) [],
 .Q 2 11 5 16] [] (.s [.v 17 0,.e 18 5 3,.k 19 0 18,
 .p 20 121 17 19,.e 21 5 5,.Q 2 1 21 20] [17,18,21] (.seq (.s [.v 22 0,
 .a 23 46 22] [22] (.cond (.T 23) [0,3,5] (.s [
 .o 24 (.build [.i 0,.i 0,.str [],.str [],.i 0,.af,.i 0,.i 0,.i 0,.i 0,.i 0] []) [],
 .Q 1 11 4 24] [] .ret) [] .skip)) (.s [.m 6 (.b false)] [6] (.s [.v 26 0,
 .A 27 2 11 5,.p 28 141 26 27,.w 25 28,.x 29 0 25,.x 30 1 25,
 .u 31 2 25,.e 32 7 5,.S 2 3 32 29,.e 33 10 5,.S 2 1 33 30,
 .v 6 31] [26,29,30,31,32,33] (.seq (.s [.v 34 6,.o 35 (.un .not) [.t 34]] [6,34] (.cond (.T 35) [] (.g [
 .v 36 0,.e 37 6 3,.k 38 0 37,.q 39 119 36 38] [0,3,36,37,38,39]) [0,3]
 .skip)) (.s [.A 40 2 11 5,.Q 1 11 4 40] [5] .ret))))))))) }
def II:bN:=
 (.s [.J 11 .lss 10 9] [] (.seq (.w 11 [0,8,9,10] 0) (.seq (.block 1 (.s [
 .Y 12 11 8 10,.L 13 11 12,
 .o 7 (.cq 0 [.i 0,.i 0,.str [],.str [],.i 0,.af,.i 0,.i 0,.i 0,.i 0,.i 0]) [],
 .Q 0 11 7 13] [] (.seq (.s [.v 14 0,.a 15 46 14] [14] (.cond (.T 15) [0,5,7,8,9,10] (.s [.o 4 .move [.const .af]] [] .ret) [] .skip)) (.g [.w 16 5,.v 17 0,.A 18 0 11 7,
 .p 19 142 17 18,
 .o 20 (.lit 11 1 [.i 0,.i 0,.str [],.str [],.i 0,.af,.i 0,.i 0,.i 0,.i 0,.i 0] [0]) [.T 19],
 .o 21 (.append 11 120) [.T 16,.T 20],.w 5 21] [7,17])))) (.g [.I 22 .add 10 1,
 .v 10 22] [22]))))
def T6:aL:={ eP:=121,mode:=.jY,aH:=2,aP:=1,dD:=[],results:=[.tmp 4 true],body:=
 (.s [.o 4 .move [.const .af]] [4] (.s [.o 5 .move [.const .af]] [] (.seq (.s [.w 8 1,
 .h 9 8,.m 10 (.i 0)] [] (.block 0 (.loop II))) (.s [.w 23 5,
 .w 4 23] [] .ret)))) }
def nS:aL:={ eP:=122,mode:=.jY,aH:=3,aP:=3,dD:=[],results:=[.tmp 6 false,.tmp 7 false],body:=
 (.s [.B 4 0 9 1,.o 5 (.vn 1 3) [.t 2],.m 6 (.i 0),.m 7 (.b false)] [2,6,7] (.seq
 (.s [.e 11 0 4,.k 12 0 11] [11] (.block 0 (.s [
 .I 14 .eql 12 1,.v 13 14] [14] (.cond (.T 13) [12] (.s [.v 15 0,
 .e 16 1 4,.k 17 0 16,.A 18 1 3 5,.c 19 143 [.t 15,.t 17,.t 18],
 .x 20 0 19,.u 21 1 19,.v 6 20,.v 7 21] [0,4,5,15,16,17,18,20,21] .ret) [] (.s [
 .I 23 .eql 12 2,.v 22 23] [23] (.cond (.T 22) [12] (.seq (.seq (.r [.e 24 4 4,
 .k 25 0 24,.Z 26 11 25 0,.E 27 7 26,.L 28 3 27,
 .A 29 1 3 5,.o 30 (.ua (.flat [.int,.int,.int]) true) [.t 28,.t 29]] (some []) [24,28,29]) (.cond (.T 30) [0,4,5] (.s [
 .m 6 (.i 0),.m 7 (.b false)] [] .ret) [] .skip)) (.s [.v 31 0,
 .e 32 1 4,.k 33 0 32,.A 34 1 3 5,.c 35 143 [.t 31,.t 33,.t 34],
 .x 36 0 35,.u 37 1 35,.v 6 36,.v 7 37] [0,4,5,31,32,33,34,36,37] .ret)) [5] (.s [
 .I 39 .eql 12 3,.v 38 39] [39] (.cond (.T 38) [12] (.s [.v 41 0,
 .e 42 1 4,.k 43 0 42,.q 44 144 41 43,.w 40 44,.x 45 0 40,
 .x 46 1 40,.u 47 2 40,.G 9 2 [.i 0,.i 0,.i 0],.v 8 45,
 .S 2 3 9 46,.v 10 47] [0,41,42,43,45,46,47] (.seq (.r [.v 48 8,.v 49 10,.v 50 49,
 .y 51 (.gW 2 true 3 false) [.t 9] 50,.ey 52 4 4 50,.ky 53 0 52 50,
 .Zy 54 11 53 0 50,.Ey 55 7 54 50,.y 56 (.load true 3 false) [.T 55] 50,
 .y 57 (.ua (.flat [.int,.int,.int]) false) [.t 51,.t 56] 50,.O 58 50 57,.v 6 48,
 .v 7 58] (some []) [4,8,9,10,48,49,50,51,52,53,54,55,56,57,58]) .ret)) [] (.s [.I 60 .eql 12 4,
 .v 59 60] [60] (.cond (.T 59) [0,12] (.seq (.r [.e 61 4 4,.k 62 0 61,
 .Z 63 11 62 0,.E 64 7 63,.L 65 3 64,.e 66 4 4,
 .k 67 0 66,.Z 68 11 67 1,.E 69 7 68,.L 70 3 69,
 .o 71 (.ua (.flat [.int,.int,.int]) false) [.t 65,.t 70],.m 6 (.i 0),.v 7 71] (some []) [4,61,65,66,70,71]) .ret) [] (.seq
 (.s [.I 73 .eql 12 5,.v 72 73] [73] (.cond (.t 72) [] .skip [72] (.g [
 .I 74 .eql 12 6,.v 72 74] [74]))) (.cond (.T 72) [0,12] (.seq (.r [.e 75 4 4,
 .k 76 0 75,.Z 77 11 76 0,.E 78 7 77,.L 79 3 78,
 .c 80 145 [],.o 81 (.ua (.flat [.int,.int,.int]) false) [.t 79,.t 80],.m 6 (.i 0),
 .v 7 81] (some []) [4,75,79,80,81]) .ret) [] (.s [.I 83 .eql 12 7,.v 82 83] [83]
 (.cond (.T 82) [12] (.seq (.r [.e 84 4 4,.k 85 0 84,.H 86 85,
 .I 87 .eql 86 0,.v 88 87,.ez 89 4 4 88,.kz 90 0 89 88,
 .z 91 (.indexAddr 11) [.T 90,.i 0] 88,.Ez 92 7 91 88,.z 93 (.load true 3 false) [.T 92] 88,.vz 94 0 88,
 .z 95 .nilCheck [.t 94] 88,.Ez 96 5 95 88,.Ez 97 3 96 88,.z 98 (.load true 3 false) [.T 97] 88,
 .z 99 (.ua (.flat [.int,.int,.int]) false) [.t 93,.t 98] 88,.P 100 88 99,.m 6 (.i 0),
 .v 7 100] (some []) [0,4,84,86,87,88,89,90,91,92,93,94,95,96,97,98,99,100]) .ret) [0] (.s [
 .I 102 .eql 12 8,.v 101 102] [12,102] (.cond (.T 101) [] (.seq (.r [.e 103 4 4,
 .k 104 0 103,.Z 105 11 104 0,.E 106 7 105,
 .L 107 3 106,.c 108 146 [],.o 109 (.ua (.flat [.int,.int,.int]) false) [.t 107,.t 108],.m 6 (.i 0),
 .v 7 109] (some []) [4,103,107,108,109]) .ret) [4] .skip)))))))))))))))) (.s [.m 6 (.i 0),
 .m 7 (.b true)] [] .ret))) }
end bY
