/- Part of a proof. -/
import Derived.Test.YtachcambnjecnaaGreatA6

set_option maxRecDepth 100000
namespace Ax
@[simp]abbrev aK.v(d k:Nat):aK:=⟨some d,.move,[.tmp k false],none⟩
@[simp]abbrev aK.w(d k:Nat):aK:=⟨some d,.move,[.tmp k true],none⟩
@[simp]abbrev aK.e(d i k:Nat):aK:=⟨some d,.fieldAddr i,[.tmp k false],none⟩
@[simp]abbrev aK.E(d i k:Nat):aK:=⟨some d,.fieldAddr i,[.tmp k true],none⟩
@[simp]abbrev aK.k(d i k:Nat):aK:=⟨some d,.fD i false 1 false,[.tmp k false],none⟩
@[simp]abbrev aK.D(d k:Nat):aK:=⟨some d,.load false 1 false,[.tmp k true],none⟩
@[simp]abbrev aK.N(d k:Nat):aK:=⟨some d,.nilCheck,[.tmp k false],none⟩
@[simp]abbrev aK.I(d:Nat)(o:Go.BinOp)(k:Nat)(i:Int):aK:=⟨some d,.rU o,[.tmp k false,.const (.int .i64 i)],none⟩
@[simp]abbrev aK.J(d:Nat)(o:Go.BinOp)(k i:Nat):aK:=⟨some d,.rU o,[.tmp k false,.tmp i false],none⟩
@[simp]abbrev aK.A(d j n k:Nat):aK:=⟨some d,.fD j true n false,[.tmp k false],none⟩
@[simp]abbrev aK.S(j n k i:Nat):aK:=⟨none,.jH j n,[.tmp k false,.tmp i false],none⟩
@[simp]abbrev aK.Q(j n k i:Nat):aK:=⟨none,.jH j n,[.tmp k false,.tmp i true],none⟩
@[simp]abbrev aK.R(n k i:Nat):aK:=⟨none,.store n,[.tmp k true,.tmp i false],none⟩
@[simp]abbrev aK.X(d n k i:Nat):aK:=⟨some d,.indexAddr n,[.tmp k true,.tmp i false],none⟩
@[simp]abbrev aK.Y(d n k i:Nat):aK:=⟨some d,.indexAddr n,[.tmp k false,.tmp i false],none⟩
@[simp]abbrev aK.Z(d n k:Nat)(i:Int):aK:=⟨some d,.indexAddr n,[.tmp k true,.const (.int .i64 i)],none⟩
@[simp]abbrev aK.L(d n k:Nat):aK:=⟨some d,.load true n false,[.tmp k true],none⟩
@[simp]abbrev aK.H(d k:Nat):aK:=⟨some d,.len .sl,[.tmp k true],none⟩
@[simp]abbrev aK.h(d k:Nat):aK:=⟨some d,.len .sl,[.tmp k false],none⟩
@[simp]abbrev aK.x(d i k:Nat):aK:=⟨some d,.extract i,[.tmp k false],none⟩
@[simp]abbrev aK.u(d i k:Nat):aK:=⟨some d,.extract i,[.tmp k true],none⟩
@[simp]abbrev aK.B(d j n k:Nat):aK:=⟨some d,.qV j n,[.tmp k true],none⟩
@[simp]abbrev aK.O(d k i:Nat):aK:=⟨some d,.pick,[.tmp k false,.tmp i false,.const (.bool false)],none⟩
@[simp]abbrev aK.P(d k i:Nat):aK:=⟨some d,.pick,[.tmp k false,.const (.bool true),.tmp i false],none⟩
@[simp]abbrev aK.G(d j:Nat)(z:List AV):aK:=⟨some d,.bT j z,[],none⟩
@[simp]abbrev aK.a(d f k:Nat):aK:=⟨some d,.call f,[.tmp k false],none⟩
@[simp]abbrev aK.p(d f k i:Nat):aK:=⟨some d,.call f,[.tmp k false,.tmp i true],none⟩
@[simp]abbrev aK.q(d f k i:Nat):aK:=⟨some d,.call f,[.tmp k false,.tmp i false],none⟩
@[simp]abbrev aK.vy(d k g:Nat):aK:=⟨some d,.move,[.tmp k false],some (g,true)⟩
@[simp]abbrev aK.vz(d k g:Nat):aK:=⟨some d,.move,[.tmp k false],some (g,false)⟩
@[simp]abbrev aK.ey(d i k g:Nat):aK:=⟨some d,.fieldAddr i,[.tmp k false],some (g,true)⟩
@[simp]abbrev aK.ez(d i k g:Nat):aK:=⟨some d,.fieldAddr i,[.tmp k false],some (g,false)⟩
@[simp]abbrev aK.Ey(d i k g:Nat):aK:=⟨some d,.fieldAddr i,[.tmp k true],some (g,true)⟩
@[simp]abbrev aK.Ez(d i k g:Nat):aK:=⟨some d,.fieldAddr i,[.tmp k true],some (g,false)⟩
@[simp]abbrev aK.ky(d i k g:Nat):aK:=⟨some d,.fD i false 1 false,[.tmp k false],some (g,true)⟩
@[simp]abbrev aK.kz(d i k g:Nat):aK:=⟨some d,.fD i false 1 false,[.tmp k false],some (g,false)⟩
@[simp]abbrev aK.Dy(d k g:Nat):aK:=⟨some d,.load false 1 false,[.tmp k true],some (g,true)⟩
@[simp]abbrev aK.Dz(d k g:Nat):aK:=⟨some d,.load false 1 false,[.tmp k true],some (g,false)⟩
@[simp]abbrev aK.Hy(d k g:Nat):aK:=⟨some d,.len .sl,[.tmp k true],some (g,true)⟩
@[simp]abbrev aK.Hz(d k g:Nat):aK:=⟨some d,.len .sl,[.tmp k true],some (g,false)⟩
@[simp]abbrev aK.Iy(d:Nat)(o:Go.BinOp)(k:Nat)(i:Int)(g:Nat):aK:=⟨some d,.rU o,[.tmp k false,.const (.int .i64 i)],some (g,true)⟩
@[simp]abbrev aK.Iz(d:Nat)(o:Go.BinOp)(k:Nat)(i:Int)(g:Nat):aK:=⟨some d,.rU o,[.tmp k false,.const (.int .i64 i)],some (g,false)⟩
@[simp]abbrev aK.Jy(d:Nat)(o:Go.BinOp)(k i g:Nat):aK:=⟨some d,.rU o,[.tmp k false,.tmp i false],some (g,true)⟩
@[simp]abbrev aK.Jz(d:Nat)(o:Go.BinOp)(k i g:Nat):aK:=⟨some d,.rU o,[.tmp k false,.tmp i false],some (g,false)⟩
@[simp]abbrev aK.Xz(d n k i g:Nat):aK:=⟨some d,.indexAddr n,[.tmp k true,.tmp i false],some (g,false)⟩
@[simp]abbrev aK.Zy(d n k:Nat)(i:Int)(g:Nat):aK:=⟨some d,.indexAddr n,[.tmp k true,.const (.int .i64 i)],some (g,true)⟩
@[simp]abbrev bw.w(t:Nat)(c:List Nat)(x:Nat):bw:=.cond (.tmp t true) [] .skip c (.exit x)
@[simp]abbrev bw.s(l:List aK)(c:List Nat)(k:bw):bw:=.seq (.region l none c) k
end Ax
namespace bu
open Ax Go
def s3:aH:={ eM:=3,mode:=.pure,aF:=1,aP:=6,dj:=[],results:=[.tmp 2 false],body:=
 (.s [.m 2 (.b false)] [2] (.s [.v 10 0,.a 11 5 10,.w 9 11,
 .x 12 0 9,.u 13 1 9,.G 3 0 [.U,.U,.U],.G 4 1 [.i 0,.i 0],
 .Q 0 3 3 12,.S 1 2 4 13] [10,13] (.seq (.s [.v 14 0,.o 15 (.len .str) [.t 14],
 .I 16 .gtr 15 7000,.v 17 16,.ez 18 0 4 17,.kz 19 1 18 17,
 .Iz 20 .neq 19 0 17,.P 21 17 20] [0,4,14,15,16,17,18,19,20] (.cond (.T 21) [3] (.s [.m 2 (.b true)] [] .ret) [] .skip)) (.s [.A 23 0 3 3,.c 24 6 [.T 23],
 .w 22 24,.x 25 0 22,.u 26 1 22,.G 5 2 [.U,.U,.U,.U,.i 0],
 .G 6 3 [.i 0,.i 0],.Q 2 5 5 25,.S 3 2 6 26] [26] (.s [
 .A 28 0 3 3,.c 29 7 [.T 28],.w 27 29,.x 30 0 27,.u 31 1 27,
 .G 7 4 [.U,.U,.U,.U,.i 0],.G 8 5 [.i 0,.i 0],.Q 4 5 7 30,
 .S 5 2 8 31] [3,31] (.s [.A 32 3 2 6,.A 33 5 2 8,
 .o 34 (.qj (.flat [.int,.int]) false) [.t 32,.t 33],.v 35 34,.y 36 (.fD 2 true 5 false) [.t 5] 35,.y 37 (.fD 4 true 5 false) [.t 7] 35,
 .y 38 (.call 8) [.T 36,.T 37] 35,.O 39 35 38,.v 40 39,.y 41 (.call 9) [] 40,
 .O 42 40 41,.v 2 42] [5,6,7,8,32,33,34,35,36,37,38,39,40,41,42] .ret)))))) }
def Xv:bw:=
 (.seq (.s [.v 21 6,.a 22 12 21,.v 23 22,.vy 24 6 23,.y 25 (.call 13) [.t 24] 23,
 .y 26 (.field 0 1 false) [.t 25] 23,.Iy 27 .neq 26 0 23,
 .O 28 23 27] [21,22,23,24,25,26,27] (.w 28 [] 0)) (.block 1 (.block 2 (.seq (.s [
 .v 32 6,.c 33 14 [.t 32,.const (.str [114,101,99,111,114,100])],.v 34 33,.ey 35 0 7 34,
 .ky 36 3 35 34,.Hy 37 36 34,.Iy 38 .eql 37 12 34,
 .O 39 34 38,.v 31 39] [32,33,34,35,36,37,38,39] (.cond (.t 31) [] .skip [31] (.s [
 .v 40 6,.c 41 14 [.t 40,.const (.str [103,108,111,98,97,108])],.v 42 41,.ey 43 1 7 42,
 .ky 44 3 43 42,.Hy 45 44 42,.Iy 46 .eql 45 8 42,
 .O 47 42 46,.v 31 47] [40,41,42,43,44,45,46,47] (.cond (.t 31) [] .skip [31] (.g [
 .v 48 6,.c 49 14 [.t 48,.const (.str [102,117,110,99])],.v 50 49,.ey 51 2 7 50,
 .ky 52 3 51 50,.Hy 53 52 50,.Iy 54 .eql 53 16 50,
 .O 55 50 54,.v 31 55] [48,49,50,51,52,53,54,55]))))) (.cond (.T 31) [] (.g [.v 56 6,
 .c 57 15 [.t 56,.i 4]] [56,57]) [] (.s [.v 59 6,
 .c 60 14 [.t 59,.const (.str [114,101,99,111,114,100])],.v 58 60] [59,60] (.cond (.T 58) [] (.s [.v 61 6,
 .N 62 61,.E 63 1 62,.D 64 63,.I 65 .add 64 1,
 .N 66 61,.E 67 1 66,.R 1 67 65] [61,64,65] (.r [.e 68 0 7,
 .o 69 (.fD 3 false 1 true) [.t 68],.v 70 6,.a 71 16 70,.o 72 (.lit 3 1 [.str [],.U,.i 0] [0]) [.T 71],
 .o 73 (.append 3 48) [.T 69,.T 72],.e 74 0 7,.Q 3 1 74 73] (some []) [68,70,74])) [] (.s [
 .v 76 6,.c 77 14 [.t 76,.const (.str [103,108,111,98,97,108])],.v 75 77] [76,77] (.cond (.T 75) [] (.s [
 .v 78 6,.N 79 78,.E 80 1 79,.D 81 80,
 .I 82 .add 81 1,.N 83 78,.E 84 1 83,.R 1 84 82] [78,81,82] (.seq
 (.r [.e 85 1 7,.o 86 (.fD 3 false 1 true) [.t 85],.v 87 6,.a 88 17 87,
 .o 89 (.lit 4 1 [.str [],.str [],.i 0,.i 0] [0]) [.t 88],.o 90 (.append 4 48) [.T 86,.T 89],.e 91 1 7,
 .Q 3 1 91 90] (some []) [85,87,88,91]) (.g [.v 92 6,.c 93 18 [.t 92,.const (.str [59])]] [92,93]))) [] (.s [.v 95 6,.c 96 14 [.t 95,.const (.str [102,117,110,99])],.v 94 96] [95,96] (.cond (.T 94) [] (.s [
 .v 97 6,.N 98 97,.E 99 1 98,.D 100 99,
 .I 101 .add 100 1,.N 102 97,.E 103 1 102,.R 1 103 101] [97,100,101]
 (.r [.e 104 2 7,.o 105 (.fD 3 false 1 true) [.t 104],.v 106 6,.a 107 19 106,
 .o 108 (.lit 7 1 [.str [],.U,.bool false,.str [],.i 0,.U,.i 0] [0]) [.T 107],.o 109 (.append 7 104) [.T 105,.T 108],
 .e 110 2 7,.Q 3 1 110 109] (some []) [104,106,110])) [] (.g [.v 29 6,
 .c 30 15 [.t 29,.i 2]] [29,30]))))))))))))
def s5:aH:={ eM:=5,mode:=.pure,aF:=1,aP:=4,dj:=[],results:=[.box 2 0 3 true,.box 3 1 2 true],body:=
 (.s [.G 2 0 [.U,.U,.U],.G 3 1 [.i 0,.i 0]] [] (.s [.v 9 0,
 .a 10 11 9,.w 8 10,.x 11 0 8,.u 12 1 8,.G 5 2 [.i 0,.i 0],
 .w 4 11,.S 2 2 5 12] [0,9,12] (.seq (.s [.e 13 0 5,.k 14 2 13,
 .I 15 .neq 14 0] [13,14] (.cond (.T 15) [4] (.seq (.r [.o 16 (.build [.U,.U,.U] []) [],
 .A 17 2 2 5,.Q 0 3 2 16,.S 1 2 3 17] (some []) [5,17]) .ret) [5] .skip)) (.s [
 .w 18 4,.o 19 (.build [.U,.i 0,.i 0,.i 0,.i 0] [(0,1)]) [.T 18],.o 20 (.box 5) [.T 19],
 .v 6 20] [20] (.s [.G 7 3 [.U,.U,.U]] [] (.seq (.block 0 (.loop Xv)) (.seq (.s [
 .v 111 6,.a 112 12 111,.o 113 (.un .not) [.t 112]] [111,112] (.cond (.T 113) [7] (.seq (.r [
 .o 114 (.build [.U,.U,.U] []) [],.v 115 6,.N 116 115,.E 117 3 116,
 .L 118 2 117,.Q 0 3 2 114,.S 1 2 3 118] (some []) [6,115,118]) .ret) [6] .skip)) (.s [.A 119 3 3 7,.o 120 (.build [.i 0,.i 0] []) [],.Q 0 3 2 119,
 .S 1 2 3 120] [7,120] .ret)))))))) }
def Xw:bw:=
 (.s [.J 48 .lss 47 46] [] (.seq (.w 48 [45,46,47] 0) (.seq (.block 1 (.s [
 .Y 49 4 45 47,.L 50 4 49,.o 9 (.bT 6 [.str [],.i 0,.i 0,.i 0]) [],
 .S 6 4 9 50] [50] (.r [.v 51 7,.v 52 7,.N 53 52,.E 54 0 53,
 .E 55 1 54,.o 56 (.load false 1 true) [.T 55],.e 57 1 9,.A 58 6 3 57,
 .o 59 (.lit 3 1 [.i 0,.i 0,.i 0] [0]) [.t 58],.o 60 (.append 3 24) [.T 56,.T 59],.N 61 51,.E 62 0 61,
 .E 63 1 62,.n (.store 1) [.T 63,.T 60]] (some []) [9,51,52,57,58]))) (.g [.I 64 .add 47 1,
 .v 47 64] [64]))))
def Xx:bw:=
 (.s [.J 69 .lss 68 67] [] (.seq (.w 69 [4,10,66,67,68] 2) (.seq (.block 3 (.s [
 .v 70 68,.Y 71 3 66 68,.L 72 3 71,.G 12 7 [.U,.U,.i 0],
 .v 11 70,.Q 7 3 12 72] [70] (.seq (.r [.v 73 7,.e 74 0 4,
 .e 75 2 74,.k 76 3 75,.v 77 11,.X 78 6 76 77,
 .L 79 6 78,.A 80 7 3 12,.c 81 23 [.t 73,.T 79,.T 80]] (some []) [11,73,74,75,77,81]) (.s [.v 82 10,.v 83 7,.N 84 83,.E 85 5 84,.E 86 6 85,
 .D 87 86,.H 88 87,.J 89 .add 82 88,.v 10 89] [82,83,88,89] (.s [
 .v 90 7,.N 91 90,.E 92 5 91,.E 93 1 92,.D 94 93,
 .H 95 94,.I 96 .gtr 95 4000,.v 97 96,.vz 98 10 97,
 .Iz 99 .gtr 98 2500 97,.P 100 97 99,.v 101 100,.vz 102 7 101,
 .z 103 .nilCheck [.t 102] 101,.Ez 104 0 103 101,.Ez 105 3 104 101,.Dz 106 105 101,
 .Hz 107 106 101,.Iz 108 .gtr 107 60 101,
 .P 109 101 108] [90,95,96,97,98,99,100,101,102,103,104,105,106,107,108] (.cond (.T 109) [4,7,10,66,67,68] (.seq
 (.r [.o 110 (.build [.U,.U,.U,.U,.i 0] []) [],.e 111 2 12,.k 112 7 111,
 .o 113 (.build [.i 0,.i 0] [(0,1),(1,1)]) [.i 4,.t 112],.Q 1 5 2 110,
 .S 2 2 3 113] (some []) [12,111,112,113]) .ret) [12] .skip)))))) (.g [.I 114 .add 68 1,
 .v 68 114] [114]))))
def s6:aH:={ eM:=6,mode:=.pure,aF:=1,aP:=8,dj:=[],results:=[.box 2 1 5 true,.box 3 2 2 true],body:=
 (.s [.B 1 0 3 0,.G 2 1 [.U,.U,.U,.U,.i 0],
 .G 3 2 [.i 0,.i 0]] [] (.s [.A 14 0 3 1,.c 15 20 [.T 14],.w 13 15,
 .x 16 0 13,.u 17 1 13,.G 4 3 [.U,.U,.U,.i 0,.U],
 .G 5 4 [.i 0,.i 0],.Q 3 5 4 16,.S 4 2 5 17] [17] (.seq (.s [
 .e 18 0 5,.k 19 4 18,.I 20 .neq 19 0] [18,19] (.cond (.T 20) [1,4] (.seq
 (.r [.o 21 (.build [.U,.U,.U,.U,.i 0] []) [],.A 22 4 2 5,.Q 1 5 2 21,
 .S 2 2 3 22] (some []) [5,22]) .ret) [5] .skip)) (.seq (.s [.A 23 0 3 1,.c 24 21 [.T 23],
 .G 6 5 [.i 0,.i 0],.S 5 2 6 24] [24] (.s [.e 25 0 6,
 .k 26 5 25,.I 27 .neq 26 0] [25,26] (.cond (.T 27) [1,4] (.seq (.r [
 .o 28 (.build [.U,.U,.U,.U,.i 0] []) [],.A 29 5 2 6,.Q 1 5 2 28,
 .S 2 2 3 29] (some []) [6,29]) .ret) [6] .skip))) (.seq (.s [.A 30 0 3 1,
 .c 31 22 [.T 30]] [1] (.cond (.T 31) [4] (.s [.o 32 (.build [.U,.U,.U,.U,.i 0] []) [],
 .o 33 (.build [.i 0,.i 0] [(0,1)]) [.i 4],.Q 1 5 2 32,.S 2 2 3 33] [33] .ret) []
 .skip)) (.s [.e 34 0 4,.e 35 0 34,.k 36 3 35,.e 37 0 4,
 .e 38 3 37,.k 39 3 38,.o 40 (.build [.U,.U,.U,.U,.i 0] [(0,1),(4,1)]) [.T 36,.t 39],
 .o 41 (.build [.U,.U,.U,.U,.i 0,.i 0,.U,.bool false,.i 0,.i 0,.i 0,.U] [(0,5)]) [.T 40],
 .o 42 (.box 12) [.T 41],.v 7 42] [34,35,37,38,39,42] (.seq (.s [.e 43 0 4,.e 44 1 43,
 .k 45 3 44,.h 46 45,.m 47 (.i 0)] [43,44] (.block 0 (.loop Xw))) (.s [
 .m 10 (.i 0)] [] (.seq (.s [.e 65 4 4,.k 66 3 65,
 .h 67 66,.m 68 (.i 0)] [65] (.block 2 (.loop Xx))) (.s [.v 115 7,
 .N 116 115,.E 117 0 116,.L 118 5 117,.o 119 (.build [.i 0,.i 0] []) [],
 .Q 1 5 2 118,.S 2 2 3 119] [7,115,119] .ret)))))))))) }
def Xy:bw:=
 (.seq (.s [.v 42 7,.e 43 0 4,.e 44 1 43,.k 45 3 44,
 .H 46 45,.J 47 .lss 42 46] [42,43,44,46] (.w 47 [7] 0)) (.seq (.block 1 (.r [
 .e 50 1 6,.o 51 (.fD 5 false 1 true) [.t 50],.e 52 0 4,.e 53 1 52,
 .k 54 3 53,.v 55 7,.X 56 4 54 55,.E 57 1 56,
 .L 58 3 57,.o 59 (.lit 3 1 [.i 0,.i 0,.i 0] [0]) [.t 58],.o 60 (.append 3 24) [.T 51,.T 59],
 .e 61 1 6,.Q 5 1 61 60] (some []) [50,52,53,55,58,61])) (.g [.v 48 7,
 .I 49 .add 48 1,.v 7 49] [48,49])))
def XA:bw:=
 (.seq (.s [.v 92 13,.e 93 0 10,.k 94 6 93,.H 95 94,
 .J 96 .lss 92 95] [92,93,95] (.w 96 [13] 4)) (.seq (.block 5 (.g [.v 99 12,
 .e 100 0 10,.k 101 6 100,.v 102 13,.X 103 4 101 102,
 .E 104 1 103,.L 105 3 104,.q 106 27 99 105] [99,100,102,105,106])) (.g [
 .v 97 13,.I 98 .add 97 1,.v 13 98] [97,98])))
def XB:bw:=
 (.seq (.s [.v 62 9,.e 63 4 4,.k 64 3 63,.H 65 64,
 .J 66 .lss 62 65] [62,63,65] (.w 66 [4,8,9] 2)) (.seq (.block 3 (.s [.e 69 4 4,
 .k 70 3 69,.v 71 9,.X 72 3 70 71,.L 73 3 72,
 .G 10 6 [.U,.U,.i 0],.Q 6 3 10 73] [69,71] (.s [.e 74 0 4,
 .e 75 2 74,.k 76 3 75,.v 77 9,.X 78 6 76 77,
 .L 79 6 78,.o 11 (.bT 7 [.str [],.U,.bool false,.i 0,.i 0,.i 0]) [],
 .Q 7 6 11 79] [74,75,77] (.s [.o 80 (.fD 5 true 5 true) [.t 6],.v 81 9,.e 82 1 11,
 .k 83 7 82,.H 84 83,.e 85 2 11,.k 86 7 85,
 .e 87 3 11,.A 88 7 3 87,
 .o 89 (.build [.i 0,.U,.bool false,.i 0,.i 0,.i 0,.U] [(0,1),(2,1),(3,3)]) [.t 84,.t 86,.t 88],
 .o 90 (.build [.U,.U,.U,.U,.i 0,.i 0,.i 0,.U,.bool false,.i 0,.i 0,.i 0,.U] [(0,5),(5,1),(6,7)]) [.T 80,.t 81,.T 89],
 .o 91 (.box 13) [.T 90],.v 12 91] [11,81,82,84,85,86,87,88,91] (.seq (.s [.m 13 (.i 0)] [] (.block 4
 (.loop XA))) (.s [.v 107 12,.e 108 1 10,.k 109 6 108,
 .p 110 28 107 109] [107,108,110] (.s [.v 111 12,.a 112 29 111] [111,112] (.s [
 .v 113 12,.N 114 113,.E 115 0 114,.o 116 (.load true 5 true) [.T 115],
 .Q 5 5 6 116] [113] (.seq (.seq (.u6 12 12) (.r [.e 117 2 6,.o 118 (.fD 5 false 1 true) [.t 117],
 .v 119 12,.N 120 119,.E 121 6 120,.L 122 7 121,
 .o 123 (.lit 7 1 [.i 0,.U,.bool false,.i 0,.i 0,.i 0,.U] [0]) [.T 122],.o 124 (.append 7 88) [.T 118,.T 123],
 .e 125 2 6,.Q 5 1 125 124] (some []) [117,119,125])) (.s [.v 126 8,.v 127 12,
 .N 128 127,.E 129 6 128,.E 130 6 129,.D 131 130,.H 132 131,
 .J 133 .add 126 132,.v 8 133] [126,127,132,133] (.s [.v 134 8,
 .I 135 .gtr 134 2500,.v 136 135,.ez 137 3 6 136,.kz 138 5 137 136,
 .Hz 139 138 136,.Iz 140 .gtr 139 60 136,.P 141 136 140,
 .v 142 141,.vz 143 12 142,.z 144 .nilCheck [.t 143] 142,.Ez 145 6 144 142,.Ez 146 1 145 142,
 .Dz 147 146 142,.Hz 148 147 142,.Iz 149 .gtr 148 4000 142,
 .P 150 142 149] [12,134,135,136,137,138,139,140,141,142,143,144,145,146,147,148,149] (.cond (.T 150) [4,6,8,9] (.seq
 (.r [.o 151 (.build [.U,.U,.U,.U,.i 0] []) [],.e 152 2 10,.k 153 6 152,
 .o 154 (.build [.i 0,.i 0] [(0,1),(1,1)]) [.i 4,.t 153],.Q 1 5 2 151,
 .S 2 2 3 154] (some []) [10,152,153,154]) .ret) [10] .skip)))))))))))) (.g [.v 67 9,
 .I 68 .add 67 1,.v 9 68] [67,68])))
def s7:aH:={ eM:=7,mode:=.pure,aF:=1,aP:=8,dj:=[],results:=[.box 2 1 5 true,.box 3 2 2 true],body:=
 (.s [.B 1 0 3 0,.G 2 1 [.U,.U,.U,.U,.i 0],
 .G 3 2 [.i 0,.i 0]] [] (.s [.A 15 0 3 1,.c 16 24 [.T 15],.w 14 16,
 .x 17 0 14,.u 18 1 14,.G 4 3 [.U,.U,.U,.i 0,.U],
 .G 5 4 [.i 0,.i 0],.Q 3 5 4 17,.S 4 2 5 18] [18] (.seq (.s [
 .e 19 0 5,.k 20 4 19,.I 21 .neq 20 0] [19,20] (.cond (.T 21) [1,4] (.seq
 (.r [.o 22 (.build [.U,.U,.U,.U,.i 0] []) [],.A 23 4 2 5,.Q 1 5 2 22,
 .S 2 2 3 23] (some []) [5,23]) .ret) [] .skip)) (.s [.A 24 0 3 1,.c 25 25 [.T 24],
 .S 4 2 5 25] [25] (.seq (.s [.e 26 0 5,.k 27 4 26,
 .I 28 .neq 27 0] [26,27] (.cond (.T 28) [1,4] (.seq (.r [
 .o 29 (.build [.U,.U,.U,.U,.i 0] []) [],.A 30 4 2 5,.Q 1 5 2 29,
 .S 2 2 3 30] (some []) [5,30]) .ret) [5] .skip)) (.seq (.s [.A 31 0 3 1,
 .c 32 26 [.T 31]] [1] (.cond (.T 32) [4] (.s [.o 33 (.build [.U,.U,.U,.U,.i 0] []) [],
 .o 34 (.build [.i 0,.i 0] [(0,1)]) [.i 4],.Q 1 5 2 33,.S 2 2 3 34] [34] .ret) []
 .skip)) (.s [.e 35 0 4,.e 36 0 35,.k 37 3 36,.e 38 0 4,
 .e 39 3 38,.k 40 3 39,.o 41 (.build [.U,.U,.U,.U,.i 0] [(0,1),(4,1)]) [.T 37,.t 40],
 .G 6 5 [.U,.U,.U,.U,.i 0],.Q 5 5 6 41] [35,36,38,39,40] (.seq (.s [
 .m 7 (.i 0)] [] (.block 0 (.loop Xy))) (.s [.m 8 (.i 0)] [] (.seq (.s [
 .m 9 (.i 0)] [] (.block 2 (.loop XB))) (.s [.A 155 5 5 6,
 .o 156 (.build [.i 0,.i 0] []) [],.Q 1 5 2 155,.S 2 2 3 156] [6,156] .ret))))))))))) }
def XC:bw:=
 (.seq (.s [.v 50 5,.e 51 0 2,.k 52 0 51,.H 53 52,
 .J 54 .lss 50 53] [50,51,53] (.w 54 [5] 0)) (.seq (.block 1 (.seq (.r [.e 57 0 2,
 .k 58 0 57,.v 59 5,.X 60 2 58 59,.E 61 0 60,
 .D 62 61,.e 63 0 3,.k 64 1 63,.v 65 5,
 .X 66 2 64 65,.E 67 0 66,.D 68 67,.J 69 .neq 62 68,.v 70 69,
 .ez 71 0 2 70,.kz 72 0 71 70,.vz 73 5 70,.Xz 74 2 72 73 70,
 .Ez 75 1 74 70,.Dz 76 75 70,.ez 77 0 3 70,.kz 78 1 77 70,
 .vz 79 5 70,.Xz 80 2 78 79 70,.Ez 81 1 80 70,.Dz 82 81 70,
 .z 83 (.call 30) [.T 76,.T 82] 70,.z 84 (.un .not) [.t 83] 70,
 .P 85 70 84] (some []) [57,59,62,63,65,68,69,70,71,72,73,74,75,76,77,78,79,80,81,82,83,84]) (.cond (.T 85) [2,3,5] (.s [.m 4 (.b false)] [] .ret) [] .skip))) (.g [.v 55 5,.I 56 .add 55 1,
 .v 5 56] [55,56])))
def XD:bw:=
 (.seq (.s [.v 86 6,.e 87 1 2,.k 88 0 87,.H 89 88,
 .J 90 .lss 86 89] [86,87,89] (.w 90 [6] 2)) (.seq (.block 3 (.seq (.r [.e 93 1 2,
 .k 94 0 93,.v 95 6,.X 96 3 94 95,.L 97 3 96,
 .e 98 1 3,.k 99 1 98,.v 100 6,.X 101 3 99 100,
 .L 102 3 101,.o 103 (.qj (.flat [.int,.int,.int]) true) [.t 97,.t 102]] (some []) [93,95,97,98,100,102]) (.cond (.T 103) [2,3,6]
 (.s [.m 4 (.b false)] [] .ret) [] .skip))) (.g [.v 91 6,.I 92 .add 91 1,
 .v 6 92] [91,92])))
def XE:bw:=
 (.seq (.s [.v 104 7,.e 105 2 2,.k 106 0 105,.H 107 106,
 .J 108 .lss 104 107] [104,105,107] (.w 108 [7] 4)) (.seq (.block 5 (.seq (.r [
 .e 111 2 2,.k 112 0 111,.v 113 7,.X 114 7 112 113,
 .L 115 7 114,.e 116 2 3,.k 117 1 116,.v 118 7,
 .X 119 7 117 118,.L 120 7 119,.c 121 31 [.T 115,.T 120],
 .o 122 (.un .not) [.t 121]] (some []) [111,113,116,118,121]) (.cond (.T 122) [2,3,7] (.s [.m 4 (.b false)] [] .ret) []
 .skip))) (.g [.v 109 7,.I 110 .add 109 1,.v 7 110] [109,110])))
def XF:bw:=
 (.seq (.s [.v 123 8,.e 124 3 2,.k 125 0 124,.H 126 125,
 .J 127 .lss 123 126] [123,124,126] (.w 127 [2,3,8] 6)) (.seq (.block 7 (.seq (.r [
 .e 130 3 2,.k 131 0 130,.v 132 8,.X 133 4 131 132,
 .L 134 4 133,.e 135 3 3,.k 136 1 135,.v 137 8,
 .X 138 4 136 137,.L 139 4 138,
 .o 140 (.qj (.flat [.int,.int,.int,.int]) true) [.t 134,.t 139]] (some []) [130,132,134,135,137,139]) (.cond (.T 140) [2,3,8] (.s [
 .m 4 (.b false)] [] .ret) [] .skip))) (.g [.v 128 8,.I 129 .add 128 1,
 .v 8 129] [128,129])))
def s8:aH:={ eM:=8,mode:=.pure,aF:=2,aP:=2,dj:=[],results:=[.tmp 4 false],body:=
 (.s [.B 2 0 5 0,.B 3 1 5 1,.m 4 (.b false)] [4] (.seq (.s [
 .e 9 4 2,.k 10 0 9,.e 11 4 3,.k 12 1 11,
 .J 13 .neq 10 12,.v 14 13,.ez 15 0 2 14,.kz 16 0 15 14,.Hz 17 16 14,
 .ez 18 0 3 14,.kz 19 1 18 14,.Hz 20 19 14,.Jz 21 .neq 17 20 14,
 .P 22 14 21,.v 23 22,.ez 24 1 2 23,.kz 25 0 24 23,
 .Hz 26 25 23,.ez 27 1 3 23,.kz 28 1 27 23,.Hz 29 28 23,
 .Jz 30 .neq 26 29 23,.P 31 23 30,.v 32 31,.ez 33 2 2 32,
 .kz 34 0 33 32,.Hz 35 34 32,.ez 36 2 3 32,.kz 37 1 36 32,
 .Hz 38 37 32,.Jz 39 .neq 35 38 32,.P 40 32 39,.v 41 40,
 .ez 42 3 2 41,.kz 43 0 42 41,.Hz 44 43 41,.ez 45 3 3 41,
 .kz 46 1 45 41,.Hz 47 46 41,.Jz 48 .neq 44 47 41,
 .P 49 41 48] [9,10,11,12,13,14,15,16,17,18,19,20,21,22,23,24,25,26,27,28,29,30,31,32,33,34,35,36,37,38,39,40,41,42,43,44,45,46,47,48]
 (.cond (.T 49) [2,3] (.s [.m 4 (.b false)] [] .ret) [] .skip)) (.seq (.s [
 .m 5 (.i 0)] [] (.block 0 (.loop XC))) (.seq (.s [.m 6 (.i 0)] [] (.block 2
 (.loop XD))) (.seq (.s [.m 7 (.i 0)] [] (.block 4 (.loop XE))) (.seq (.s [
 .m 8 (.i 0)] [] (.block 6 (.loop XF))) (.s [.m 4 (.b true)] [] .ret))))))) }
def s9:aH:={ eM:=9,mode:=.pure,aF:=0,aP:=4,dj:=[],results:=[.tmp 0 false],body:=
 (.s [.m 0 (.b false)] [0] (.s [
 .c 6 5 [.const (.str [102,117,110,99,32,109,97,105,110,40,41,32,123,32,112,114,105,110,116,32,49,59,32,125])],.w 5 6,
 .x 7 0 5,.u 8 1 5,.G 1 0 [.U,.U,.U],.G 2 1 [.i 0,.i 0],
 .Q 0 3 1 7,.S 1 2 2 8] [2,8] (.s [.A 10 0 3 1,.c 11 6 [.T 10],
 .w 9 11,.x 12 0 9,.u 13 1 9,.G 3 2 [.U,.U,.U,.U,.i 0],
 .G 4 3 [.i 0,.i 0],.Q 2 5 3 12,.S 3 2 4 13] [1,13] (.s [
 .e 14 0 4,.k 15 3 14,.I 16 .eql 15 0,.v 17 16,
 .ey 18 2 3 17,.ky 19 2 18 17,.Hy 20 19 17,.Iy 21 .eql 20 1 17,
 .O 22 17 21,.v 23 22,.ey 24 2 3 23,.ky 25 2 24 23,
 .Zy 26 7 25 0 23,.Ey 27 6 26 23,.Dy 28 27 23,.Hy 29 28 23,
 .Iy 30 .eql 29 3 23,.O 31 23 30,.v 32 31,.ey 33 2 3 32,
 .ky 34 2 33 32,.Zy 35 7 34 0 32,.Ey 36 6 35 32,
 .Dy 37 36 32,.Zy 38 6 37 0 32,.Ey 39 0 38 32,
 .Dy 40 39 32,.Iy 41 .eql 40 1 32,.O 42 32 41,
 .v 43 42,.ey 44 2 3 43,.ky 45 2 44 43,.Zy 46 7 45 0 43,
 .Ey 47 6 46 43,.Dy 48 47 43,.Zy 49 6 48 0 43,
 .Ey 50 4 49 43,.Dy 51 50 43,.Iy 52 .eql 51 1 43,
 .O 53 43 52,.v 54 53,.ey 55 2 3 54,.ky 56 2 55 54,
 .Zy 57 7 56 0 54,.Ey 58 6 57 54,.Dy 59 58 54,
 .Zy 60 6 59 2 54,.Ey 61 1 60 54,.Dy 62 61 54,
 .y 63 (.rU .eql) [.t 62,.const (.i (-1))] 54,.O 64 54 63,
 .v 0 64] [3,4,14,15,16,17,18,19,20,21,22,23,24,25,26,27,28,29,30,31,32,33,34,35,36,37,38,39,40,41,42,43,44,45,46,47,48,49,50,51,52,53,54,55,56,57,58,59,60,61,62,63,64]
 .ret)))) }
def Q4:bw:=
 (.seq (.s [.v 14 5,.v 15 0,.o 16 (.len .str) [.t 15],.J 17 .lss 14 16] [14,15,16] (.w 17 [5] 0)) (.block 1 (.s [.v 19 0,.v 20 5,.q 21 37 19 20,.w 18 21,
 .x 22 0 18,.u 23 1 18,.o 6 (.bT 1 [.i 0,.str [],.i 0,.i 0]) [],.S 1 4 6 22,
 .v 7 23] [19,20,22,23] (.seq (.s [.v 24 7,.I 25 .eql 24 0] [24]
 (.cond (.T 25) [0,4,6,7] (.s [.v 26 5,.o 27 (.build [.i 0,.i 0] [(0,1),(1,1)]) [.i 1,.t 26],
 .o 2 .move [.const .U],.S 0 2 3 27] [5,26,27] .ret) [] .skip)) (.s [.w 28 4,
 .A 29 1 4 6,.o 30 (.lit 4 1 [.i 0,.str [],.i 0,.i 0] [0]) [.t 29],.o 31 (.append 4 40) [.T 28,.T 30],
 .w 4 31] [6,29] (.g [.v 32 0,.v 33 5,.v 34 7,.J 35 .add 33 34,
 .q 36 36 32 35,.v 5 36] [7,32,33,34,35,36]))))))
def s11:aH:={ eM:=11,mode:=.pure,aF:=1,aP:=2,dj:=[],results:=[.tmp 2 true,.box 3 0 2 true],body:=
 (.s [.o 2 .move [.const .U],.G 3 0 [.i 0,.i 0]] [2] (.seq (.s [.v 8 0,
 .o 9 (.len .str) [.t 8],.I 10 .gtr 9 6000] [8,9] (.cond (.T 10) [0] (.s [
 .o 11 (.build [.i 0,.i 0] [(0,1)]) [.i 4],.o 2 .move [.const .U],.S 0 2 3 11] [11] .ret) []
 .skip)) (.s [.o 4 .move [.const .U]] [] (.s [.v 12 0,.c 13 36 [.t 12,.i 0],
 .v 5 13] [12,13] (.seq (.block 0 (.loop Q4)) (.s [.w 37 4,.v 38 0,.o 39 (.len .str) [.t 38],
 .o 40 (.build [.i 0,.str [],.i 0,.i 0] [(0,1),(3,1)]) [.i 0,.t 39],
 .o 41 (.lit 4 1 [.i 0,.str [],.i 0,.i 0] [0]) [.t 40],.o 42 (.append 4 40) [.T 37,.T 41],
 .o 43 (.build [.i 0,.i 0] []) [],.w 2 42,.S 0 2 3 43] [0,38,39,40,43] .ret)))))) }
def s12:aH:={ eM:=12,mode:=.kg,aF:=1,aP:=0,dj:=[],results:=[.tmp 2 false],body:=
 (.s [.m 2 (.b false)] [2] (.s [.v 3 0,.N 4 3,.E 5 3 4,
 .E 6 0 5,.D 7 6,.I 8 .eql 7 0,.v 2 8] [0,3,7,8] .ret)) }
def s13:aH:={ eM:=13,mode:=.kg,aF:=1,aP:=1,dj:=[],results:=[.box 2 0 4 true],body:=
 (.s [.o 2 (.bT 0 [.i 0,.str [],.i 0,.i 0]) []] [] (.seq (.seq (.r [.v 3 0,.N 4 3,
 .E 5 1 4,.D 6 5,.I 7 .lss 6 0,.v 8 7,.vz 9 0 8,
 .z 10 .nilCheck [.t 9] 8,.Ez 11 1 10 8,.Dz 12 11 8,.vz 13 0 8,.z 14 .nilCheck [.t 13] 8,
 .Ez 15 0 14 8,.Dz 16 15 8,.Hz 17 16 8,.Jz 18 .geq 12 17 8,
 .P 19 8 18] (some []) [3,6,7,8,9,10,11,12,13,14,15,16,17,18]) (.cond (.T 19) [0] (.s [
 .o 20 (.build [.i 0,.str [],.i 0,.i 0] [(0,1)]) [.i 0],.S 0 4 2 20] [20] .ret) [] .skip)) (.seq
 (.r [.v 21 0,.N 22 21,.E 23 0 22,.D 24 23,.v 25 0,
 .N 26 25,.E 27 1 26,.D 28 27,.X 29 4 24 28,
 .L 30 4 29,.S 0 4 2 30] (some []) [0,21,25,28,30]) .ret))) }
def s14:aH:={ eM:=14,mode:=.kg,aF:=2,aP:=1,dj:=[],results:=[.tmp 4 false],body:=
 (.s [.m 4 (.b false)] [4] (.s [.v 7 0,.a 8 13 7,
 .o 5 (.bT 0 [.i 0,.str [],.i 0,.i 0]) [],.S 0 4 5 8] [7,8] (.s [
 .m 6 (.i 4)] [] (.seq (.s [.v 9 1,.o 10 .index [.t 9,.i 0],
 .o 11 (.rU .geq) [.t 10,.const (.int .u8 97)],.v 12 11,.vy 13 1 12,.y 14 .index [.t 13,.i 0] 12,
 .y 15 (.rU .leq) [.t 14,.const (.int .u8 122)] 12,.O 16 12 15] [9,10,11,12,13,14,15] (.cond (.T 16) [6] (.g [
 .m 6 (.i 3)] []) [] .skip)) (.s [.v 17 0,.a 18 12 17,.v 19 18,
 .ey 20 0 5 19,.ky 21 0 20 19,.vy 22 6 19,.Jy 23 .eql 21 22 19,
 .O 24 19 23,.v 25 24,.ey 26 1 5 25,.ky 27 0 26 25,
 .vy 28 1 25,.Jy 29 .eql 27 28 25,.O 30 25 29,
 .v 4 30] [0,1,5,6,17,18,19,20,21,22,23,24,25,26,27,28,29,30] .ret))))) }
def s15:aH:={ eM:=15,mode:=.kg,aF:=2,aP:=0,dj:=[],results:=[],body:=
 (.s [.v 4 0,.a 5 12 4] [4] (.cond (.T 5) [] (.g [.v 6 0,.v 7 1,.v 8 0,
 .a 9 13 8,.o 10 (.field 3 1 false) [.t 9],.o 11 (.build [.i 0,.i 0] [(0,1),(1,1)]) [.t 7,.t 10],.N 12 6,
 .E 13 3 12,.R 2 13 11] [0,1,6,7,8,9,10,11]) [0,1] .skip)) }
def Q5:bw:=
 (.seq (.s [.v 13 0,.a 14 12 13,.v 15 14,.vy 16 0 15,
 .y 17 (.call 14) [.t 16,.const (.str [125])] 15,.y 18 (.un .not) [.t 17] 15,.O 19 15 18] [13,14,15,16,17,18]
 (.w 19 [] 0)) (.block 1 (.seq (.s [.v 20 0,.a 21 13 20,.o 22 (.field 0 1 false) [.t 21],
 .I 23 .eql 22 1,.v 24 23,.ey 25 1 3 24,.ky 26 1 25 24,
 .Hy 27 26 24,.Iy 28 .eql 27 8 24,
 .O 29 24 28] [20,21,22,23,24,25,26,27,28] (.cond (.T 29) [] (.s [.v 30 0,
 .c 31 15 [.t 30,.i 4]] [30,31] (.exit 0)) [] .skip)) (.seq (.r [.e 32 1 3,
 .o 33 (.fD 1 false 1 true) [.t 32],.v 34 0,.a 35 17 34,.o 36 (.lit 4 1 [.str [],.str [],.i 0,.i 0] [0]) [.t 35],
 .o 37 (.append 4 48) [.T 33,.T 36],.e 38 1 3,.Q 1 1 38 37] (some []) [32,34,35,38]) (.g [.v 39 0,
 .c 40 18 [.t 39,.const (.str [59])]] [39,40])))))
def s16:aH:={ eM:=16,mode:=.kg,aF:=1,aP:=2,dj:=[],results:=[.box 2 0 3 true],body:=
 (.s [.o 2 (.bT 0 [.str [],.U,.i 0]) []] [] (.s [.v 4 0,.a 5 13 4,
 .o 6 (.field 3 1 false) [.t 5],.o 7 (.build [.str [],.U,.i 0] [(2,1)]) [.t 6],.o 3 (.bT 1 [.str [],.U,.i 0]) [],
 .Q 1 3 3 7] [4,5,6] (.s [.v 8 0,.a 9 38 8,.e 10 0 3,
 .S 1 1 10 9] [8,9,10] (.s [.v 11 0,.c 12 18 [.t 11,.const (.str [123])]] [11,12] (.seq (.block 0
 (.loop Q5)) (.s [.v 41 0,.c 42 18 [.t 41,.const (.str [125])]] [0,41,42] (.s [
 .A 43 1 3 3,.Q 0 3 2 43] [3] .ret))))))) }
def s17:aH:={ eM:=17,mode:=.kg,aF:=1,aP:=2,dj:=[],results:=[.box 2 0 4 true],body:=
 (.s [.o 2 (.bT 0 [.str [],.str [],.i 0,.i 0]) []] [] (.s [.v 4 0,.a 5 13 4,
 .o 6 (.field 3 1 false) [.t 5],.o 7 (.build [.str [],.str [],.i 0,.i 0] [(3,1)]) [.t 6],
 .o 3 (.bT 1 [.str [],.str [],.i 0,.i 0]) [],.S 1 4 3 7] [4,5,6,7] (.s [.v 8 0,
 .a 9 38 8,.e 10 0 3,.S 1 1 10 9] [8,9,10] (.s [.v 11 0,
 .c 12 18 [.t 11,.const (.str [58])]] [11,12] (.s [.v 13 0,.a 14 39 13,.e 15 1 3,
 .S 1 2 15 14] [0,13,14,15] (.s [.A 16 1 4 3,.S 0 4 2 16] [3,16]
 .ret)))))) }
def s18:aH:={ eM:=18,mode:=.kg,aF:=2,aP:=0,dj:=[],results:=[],body:=
 (.seq (.s [.v 4 0,.v 5 1,.q 6 14 4 5,.o 7 (.un .not) [.t 6]] [1,4,5,6] (.cond (.T 7) [] (.s [.v 8 0,.c 9 15 [.t 8,.i 2]] [0,8,9] .ret) [] .skip)) (.g [.v 10 0,
 .N 11 10,.E 12 1 11,.D 13 12,.I 14 .add 13 1,
 .N 15 10,.E 16 1 15,.R 1 16 14] [0,10,13,14])) }
def Q6:bw:=
 (.seq (.s [.v 13 0,.a 14 12 13,.v 15 14,.vy 16 0 15,
 .y 17 (.call 14) [.t 16,.const (.str [41])] 15,.y 18 (.un .not) [.t 17] 15,.O 19 15 18] [13,14,15,16,17,18]
 (.w 19 [] 0)) (.block 1 (.seq (.s [.v 20 0,.a 21 13 20,.o 22 (.field 0 1 false) [.t 21],
 .I 23 .eql 22 1,.v 24 23,.ey 25 1 3 24,.ky 26 1 25 24,
 .Hy 27 26 24,.Iy 28 .eql 27 6 24,
 .O 29 24 28] [20,21,22,23,24,25,26,27,28] (.cond (.T 29) [] (.s [.v 30 0,
 .c 31 15 [.t 30,.i 4]] [30,31] (.exit 0)) [] .skip)) (.seq (.r [.e 32 1 3,
 .o 33 (.fD 1 false 1 true) [.t 32],.v 34 0,.a 35 17 34,.o 36 (.lit 4 1 [.str [],.str [],.i 0,.i 0] [0]) [.t 35],
 .o 37 (.append 4 48) [.T 33,.T 36],.e 38 1 3,.Q 1 1 38 37] (some []) [32,34,35,38]) (.s [.v 39 0,
 .c 40 14 [.t 39,.const (.str [41])],.o 41 (.un .not) [.t 40]] [39,40] (.cond (.T 41) [] (.s [.v 42 0,
 .c 43 18 [.t 42,.const (.str [44])]] [42,43] (.s [.v 44 0,.c 45 14 [.t 44,.const (.str [41])]] [44]
 (.cond (.T 45) [] (.g [.v 46 0,.c 47 15 [.t 46,.i 2]] [46,47]) [] .skip))) [] .skip))))))
def Zk:aH:={ eM:=19,mode:=.kg,aF:=1,aP:=2,dj:=[],results:=[.box 2 0 7 true],body:=
 (.s [.o 2 (.bT 0 [.str [],.U,.bool false,.str [],.i 0,.U,.i 0]) []] [] (.s [.v 4 0,
 .a 5 13 4,.o 6 (.field 3 1 false) [.t 5],.o 7 (.build [.str [],.U,.bool false,.str [],.i 0,.U,.i 0] [(6,1)]) [.t 6],
 .o 3 (.bT 1 [.str [],.U,.bool false,.str [],.i 0,.U,.i 0]) [],.Q 1 7 3 7] [4,5,6] (.s [
 .v 8 0,.a 9 38 8,.e 10 0 3,.S 1 1 10 9] [8,9,10] (.s [.v 11 0,
 .c 12 18 [.t 11,.const (.str [40])]] [11,12] (.seq (.block 0 (.loop Q6)) (.s [.v 48 0,
 .c 49 18 [.t 48,.const (.str [41])]] [48,49] (.seq (.s [.v 50 0,.c 51 14 [.t 50,.const (.str [58])]] [50]
 (.cond (.T 51) [] (.s [.v 52 0,.N 53 52,.E 54 1 53,.D 55 54,
 .I 56 .add 55 1,.N 57 52,.E 58 1 57,.R 1 58 56] [52,55,56] (.s [.e 59 2 3,.n (.jH 1 1) [.t 59,.b true]] [59] (.g [.v 60 0,.a 61 39 60,
 .e 62 3 3,.S 1 2 62 61] [60,61,62]))) [] .skip)) (.s [.v 63 0,.a 64 40 63,
 .e 65 5 3,.Q 1 1 65 64] [0,63,65] (.s [.A 66 1 7 3,
 .Q 0 7 2 66] [3] .ret))))))))) }
def Q7:bw:=
 (.s [.J 29 .lss 28 27] [] (.seq (.w 29 [26,27,28] 0) (.seq (.block 1 (.s [
 .Y 30 3 26 28,.L 31 3 30,.o 8 (.bT 5 [.str [],.U,.i 0]) [],
 .Q 5 3 8 31] [] (.r [.v 32 6,.v 33 6,.N 34 33,.E 35 4 34,
 .o 36 (.load false 1 true) [.T 35],.e 37 0 8,.k 38 5 37,.o 39 (.lit 1 1 [.str []] [0]) [.t 38],
 .o 40 (.append 1 16) [.T 36,.T 39],.N 41 32,.E 42 4 41,.n (.store 1) [.T 42,.T 40]] (some []) [8,32,33,37,38])))
 (.g [.I 43 .add 28 1,.v 28 43] [43]))))
def Q8:bw:=
 (.s [.J 50 .lss 49 48] [] (.seq (.w 50 [4,6,47,48,49] 2) (.seq (.block 3 (.s [
 .v 51 49,.Y 52 7 47 49,.L 53 7 52,
 .o 11 (.bT 7 [.str [],.U,.bool false,.str [],.i 0,.U,.i 0]) [],.v 10 51,.Q 7 7 11 53] [51]
 (.seq (.r [.e 54 4 9,.o 55 (.fD 6 false 1 true) [.t 54],.v 56 6,.A 57 7 7 11,
 .e 58 2 4,.k 59 3 58,.v 60 10,.X 61 6 59 60,
 .L 62 6 61,.c 63 42 [.t 56,.T 57,.T 62],.o 64 (.lit 3 1 [.U,.U,.i 0] [0]) [.T 63],
 .o 65 (.append 3 56) [.T 55,.T 64],.e 66 4 9,.Q 6 1 66 65] (some []) [10,11,54,56,58,60,66]) (.s [
 .v 67 6,.a 68 43 67] [67] (.cond (.T 68) [4,9,47,48,49] (.seq (.r [
 .o 69 (.build [.U,.U,.U,.i 0,.U] []) [],.v 70 6,.N 71 70,.E 72 12 71,
 .L 73 2 72,.Q 1 5 2 69,.S 2 2 3 73] (some []) [6,70,73]) .ret) [] .skip))))) (.g [
 .I 74 .add 49 1,.v 49 74] [74]))))
def s20:aH:={ eM:=20,mode:=.pure,aF:=1,aP:=8,dj:=[],results:=[.box 2 1 5 true,.box 3 2 2 true],body:=
 (.s [.B 1 0 3 0,.G 2 1 [.U,.U,.U,.i 0,.U],
 .G 3 2 [.i 0,.i 0]] [] (.s [.A 13 0 3 1,.c 14 41 [.T 13],.w 12 14,
 .x 15 0 12,.u 16 1 12,.G 4 3 [.U,.U,.U,.i 0],.G 5 4 [.i 0,.i 0],
 .Q 3 4 4 15,.S 4 2 5 16] [16] (.seq (.s [.e 17 0 5,
 .k 18 4 17,.I 19 .neq 18 0] [17,18] (.cond (.T 19) [1,4] (.seq (.r [
 .o 20 (.build [.U,.U,.U,.i 0,.U] []) [],.A 21 4 2 5,.Q 1 5 2 20,
 .S 2 2 3 21] (some []) [5,21]) .ret) [5] .skip)) (.s [.A 22 3 4 4,
 .o 23 (.build [.U,.U,.U,.i 0,.U,.str [],.U,.bool false,.i 0,.i 0,.i 0,.U,.i 0,.i 0] [(0,4)]) [.T 22],
 .o 24 (.box 14) [.T 23],.v 6 24] [24] (.seq (.s [.e 25 0 1,.k 26 0 25,
 .h 27 26,.m 28 (.i 0)] [25] (.block 0 (.loop Q7))) (.s [.A 44 3 4 4,
 .o 45 (.build [.U,.U,.U,.i 0,.U] [(0,4)]) [.T 44],.G 9 6 [.U,.U,.U,.i 0,.U],
 .Q 6 5 9 45] [] (.seq (.s [.e 46 2 1,.k 47 0 46,.h 48 47,
 .m 49 (.i 0)] [1,46] (.block 2 (.loop Q8))) (.s [.A 75 6 5 9,
 .o 76 (.build [.i 0,.i 0] []) [],.Q 1 5 2 75,.S 2 2 3 76] [9,76] .ret)))))))) }
def Q9:bw:=
 (.s [.J 40 .lss 39 38] [] (.seq (.w 40 [38,39] 2) (.seq (.block 3 (.s [
 .v 41 39,.v 8 41] [41] (.g [.v 42 7,.v 43 8,.X 44 1 42 43,
 .n (.store 1) [.T 44,.b true]] [8,43]))) (.g [.I 45 .add 39 1,.v 39 45] [45]))))
def Ra:bw:=
 (.s [.J 23 .lss 22 21] [] (.seq (.w 23 [3,20,21,22] 0) (.seq (.block 1 (.s [
 .v 24 22,.Y 25 3 20 22,.L 26 3 25,.G 6 4 [.U,.U,.i 0],
 .v 5 24,.Q 4 3 6 26] [24] (.s [.e 27 0 6,.k 28 4 27,
 .H 29 28,.o 30 (.sF 1 1 [.bool false] true) [.t 29,.t 29],.w 7 30] [27,29] (.seq (.s [
 .e 31 0 3,.e 32 2 31,.k 33 2 32,.v 34 5,.X 35 6 33 34,
 .E 36 1 35,.D 37 36,.H 38 37,.m 39 (.i 0)] [5,31,32,34] (.block 2
 (.loop Q9))) (.s [.o 46 (.build [.i 0,.i 0] []) [],.o 47 (.box 2) [.t 46],.v 9 47] [46,47] (.s [
 .v 48 9,.e 49 1 6,.k 50 4 49,.w 51 7,
 .c 52 44 [.t 48,.T 50,.T 51]] [6,48,49,52] (.s [.v 53 9,.N 54 53,.E 55 0 54,
 .E 56 0 55,.D 57 56,.I 58 .neq 57 0] [53,57] (.cond (.T 58) [3,20,21,22]
 (.s [.v 59 9,.N 60 59,.E 61 0 60,.L 62 2 61,
 .S 1 2 2 62] [9,59,62] .ret) [9] .skip)))))))) (.g [.I 63 .add 22 1,
 .v 22 63] [63]))))
def s21:aH:={ eM:=21,mode:=.pure,aF:=1,aP:=5,dj:=[],results:=[.box 2 1 2 true],body:=
 (.s [.B 1 0 3 0,.G 2 1 [.i 0,.i 0]] [] (.s [.A 11 0 3 1,
 .c 12 20 [.T 11],.w 10 12,.x 13 0 10,.u 14 1 10,
 .G 3 2 [.U,.U,.U,.i 0,.U],.G 4 3 [.i 0,.i 0],.Q 2 5 3 13,
 .S 3 2 4 14] [1,14] (.seq (.s [.e 15 0 4,.k 16 3 15,
 .I 17 .neq 16 0] [15,16] (.cond (.T 17) [3] (.s [.A 18 3 2 4,
 .S 1 2 2 18] [4,18] .ret) [4] .skip)) (.seq (.s [.e 19 4 3,.k 20 2 19,
 .h 21 20,.m 22 (.i 0)] [19] (.block 0 (.loop Ra))) (.s [
 .o 64 (.build [.i 0,.i 0] []) [],.S 1 2 2 64] [64] .ret))))) }
def Rb:bw:=
 (.s [.J 27 .lss 26 25] [] (.seq (.w 27 [24,25,26] 0) (.seq (.block 1 (.s [
 .Y 28 3 24 26,.L 29 3 28,.o 4 (.bT 1 [.str [],.U,.i 0]) [],
 .Q 1 3 4 29] [] (.s [.e 30 1 4,.k 31 1 30,.H 32 31,
 .I 33 .gtr 32 8] [4,30,32] (.cond (.T 33) [1,24,25,26] (.s [.m 2 (.b true)] []
 .ret) [] .skip)))) (.g [.I 34 .add 26 1,.v 26 34] [34]))))
def Rd:bw:=
 (.s [.J 39 .lss 38 37] [] (.seq (.w 39 [36,37,38] 2) (.seq (.block 3 (.s [
 .Y 40 7 36 38,.L 41 7 40,
 .o 6 (.bT 2 [.str [],.U,.bool false,.str [],.i 0,.U,.i 0]) [],.Q 2 7 6 41] [] (.s [
 .e 42 1 6,.k 43 2 42,.H 44 43,.I 45 .gtr 44 6] [6,42,44]
 (.cond (.T 45) [36,37,38] (.s [.m 2 (.b true)] [] .ret) [] .skip)))) (.g [
 .I 46 .add 38 1,.v 38 46] [46]))))
def s22:aH:={ eM:=22,mode:=.pure,aF:=1,aP:=3,dj:=[],results:=[.tmp 2 false],body:=
 (.s [.B 1 0 3 0,.m 2 (.b false)] [2] (.seq (.s [.e 7 0 1,
 .k 8 0 7,.H 9 8,.I 10 .gtr 9 12,.v 11 10,
 .ez 12 1 1 11,.kz 13 0 12 11,.Hz 14 13 11,.Iz 15 .gtr 14 8 11,
 .P 16 11 15,.v 17 16,.ez 18 2 1 17,.kz 19 0 18 17,
 .Hz 20 19 17,.Iz 21 .gtr 20 16 17,
 .P 22 17 21] [7,9,10,11,12,13,14,15,16,17,18,19,20,21] (.cond (.T 22) [1] (.s [
 .m 2 (.b true)] [] .ret) [] .skip)) (.seq (.s [.e 23 0 1,.k 24 0 23,
 .h 25 24,.m 26 (.i 0)] [23] (.block 0 (.loop Rb))) (.seq (.s [.e 35 2 1,
 .k 36 0 35,.h 37 36,.m 38 (.i 0)] [1,35] (.block 2 (.loop Rd))) (.s [
 .m 2 (.b false)] [] .ret))))) }
def Re:bw:=
 (.s [.J 25 .lss 24 23] [] (.seq (.w 25 [22,23,24] 0) (.seq (.block 1 (.s [
 .Y 26 4 22 24,.L 27 4 26,.o 7 (.bT 2 [.str [],.i 0,.i 0,.i 0]) [],
 .S 2 4 7 27] [27] (.r [.v 28 0,.v 29 0,.N 30 29,.E 31 5 30,
 .E 32 1 31,.o 33 (.load false 1 true) [.T 32],.e 34 1 7,.A 35 2 3 34,
 .o 36 (.lit 3 1 [.i 0,.i 0,.i 0] [0]) [.t 35],.o 37 (.append 3 24) [.T 33,.T 36],.N 38 28,.E 39 5 38,
 .E 40 1 39,.n (.store 1) [.T 40,.T 37]] (some []) [7,28,29,34,35]))) (.g [.I 41 .add 24 1,
 .v 24 41] [41]))))
def s23:aH:={ eM:=23,mode:=.zg,aF:=3,aP:=3,dj:=[],results:=[],body:=
 (.s [.B 4 0 6 1,.B 5 1 3 2] [] (.s [.v 10 0,.e 11 1 4,
 .k 12 0 11,.H 13 12,.e 14 2 4,.k 15 0 14,
 .e 16 3 4,.A 17 0 3 16,
 .o 18 (.build [.i 0,.U,.bool false,.i 0,.i 0,.i 0,.U] [(0,1),(2,1),(3,3)]) [.t 13,.t 15,.t 17],.N 19 10,
 .E 20 5 19,.n (.store 7) [.T 20,.T 18]] [10,11,13,14,15,16,17] (.seq (.s [.e 21 0 5,
 .k 22 1 21,.h 23 22,.m 24 (.i 0)] [21] (.block 0 (.loop Re))) (.s [
 .v 42 0,.e 43 1 5,.k 44 1 43,.p 45 45 42 44] [5,42,43,45] (.s [
 .o 8 .move [.const (.i (-1))]] [] (.seq (.s [.e 46 2 4,.k 47 0 46] [46]
 (.cond (.T 47) [8] (.s [.m 9 (.i 1)] [] (.seq (.s [.e 48 3 4,
 .A 49 0 3 48,.a 50 46 49] [48,49] (.cond (.T 50) [9] (.g [.m 9 (.i 2)] []) []
 .skip)) (.s [.v 51 0,.e 52 3 4,.A 53 0 3 52,.q 54 47 51 53,
 .v 8 54] [4,51,52,53,54] (.g [.v 55 0,.v 56 9,.v 57 8,
 .o 58 (.build [.i 0,.i 0,.i 0,.i 0,.i 0,.U] [(0,1),(1,1)]) [.t 56,.t 57],
 .p 59 48 55 58] [9,55,56,57,59])))) [4] .skip)) (.s [.v 60 0,.v 61 8,
 .o 62 (.build [.i 0,.i 0,.i 0,.i 0,.i 0,.U] [(0,1),(1,1)]) [.i 18,.t 61],
 .p 63 48 60 62] [8,60,61,63] (.seq (.u6 0 11) (.r [.v 64 0,.v 65 0,.N 66 65,
 .E 67 0 66,.E 68 2 67,.o 69 (.load false 1 true) [.T 68],.v 70 0,.N 71 70,
 .E 72 5 71,.L 73 7 72,
 .o 74 (.lit 7 1 [.i 0,.U,.bool false,.i 0,.i 0,.i 0,.U] [0]) [.T 73],.o 75 (.append 7 88) [.T 69,.T 74],
 .N 76 64,.E 77 0 76,.E 78 2 77,.n (.store 1) [.T 78,.T 75]] (some [(9,5)]) [0,64,65,70]))))))))) }
def Rf:bw:=
 (.seq (.s [.v 22 7,.e 23 2 1,.k 24 0 23,.H 25 24,
 .J 26 .lss 22 25] [22,23,25] (.w 26 [1,4,7] 0)) (.seq (.block 1 (.seq (.r [
 .A 29 3 4 4,.A 30 0 3 1,.c 31 50 [.T 30],.e 32 2 4,
 .k 33 3 32,.v 34 7,.X 35 6 33 34,.L 36 6 35,
 .o 37 (.build [.U,.U,.U,.i 0,.U,.str [],.U,.bool false,.i 0,.i 0,.i 0,.U,.i 0,.i 0] [(0,4),(4,1),(5,6)]) [.T 29,.T 31,.T 36],
 .o 38 (.box 14) [.T 37],.v 8 38] (some []) [32,34,38]) (.s [.v 39 8,.e 40 2 4,
 .k 41 3 40,.v 42 7,.X 43 6 41 42,.E 44 1 43,
 .D 45 44,.o 46 (.append 4 40) [.const .U,.T 45],.N 47 39,.E 48 11 47,
 .n (.store 1) [.T 48,.T 46]] [39,40,42] (.s [.v 49 8,.e 50 2 1,.k 51 0 50,
 .v 52 7,.X 53 7 51 52,.E 54 5 53,.D 55 54,.p 56 51 49 55,
 .w 9 56] [49,50,52] (.seq (.s [.v 57 8,.a 58 52 57,.o 59 (.un .not) [.t 58]] [57,58]
 (.cond (.T 59) [1,4,6,7,9] (.seq (.r [.o 60 (.build [.U,.U,.U,.i 0,.U] []) [],.v 61 8,.N 62 61,
 .E 63 12 62,.L 64 2 63,.Q 1 5 2 60,.S 2 2 3 64] (some []) [8,61,64]) .ret) []
 .skip)) (.r [.e 65 4 6,.o 66 (.fD 5 false 1 true) [.t 65],.v 67 8,.N 68 67,
 .E 69 11 68,.D 70 69,.w 71 9,.e 72 2 1,.k 73 0 72,
 .v 74 7,.X 75 7 73 74,.E 76 6 75,.D 77 76,
 .o 78 (.build [.U,.U,.i 0] [(0,1),(1,1),(2,1)]) [.T 70,.T 71,.t 77],.o 79 (.lit 3 1 [.U,.U,.i 0] [0]) [.T 78],
 .o 80 (.append 3 56) [.T 66,.T 79],.e 81 4 6,.Q 5 1 81 80] (some []) [8,65,67,72,74,77,81])))))) (.g [
 .v 27 7,.I 28 .add 27 1,.v 7 28] [27,28])))
def s24:aH:={ eM:=24,mode:=.pure,aF:=1,aP:=6,dj:=[],results:=[.box 2 1 5 true,.box 3 2 2 true],body:=
 (.s [.B 1 0 3 0,.G 2 1 [.U,.U,.U,.i 0,.U],
 .G 3 2 [.i 0,.i 0]] [] (.s [.A 11 0 3 1,.c 12 49 [.T 11],.w 10 12,
 .x 13 0 10,.u 14 1 10,.G 4 3 [.U,.U,.U,.i 0],.G 5 4 [.i 0,.i 0],
 .Q 3 4 4 13,.S 4 2 5 14] [14] (.seq (.s [.e 15 0 5,
 .k 16 4 15,.I 17 .neq 16 0] [15,16] (.cond (.T 17) [1,4] (.seq (.r [
 .o 18 (.build [.U,.U,.U,.i 0,.U] []) [],.A 19 4 2 5,.Q 1 5 2 18,
 .S 2 2 3 19] (some []) [5,19]) .ret) [5] .skip)) (.s [.A 20 3 4 4,
 .o 21 (.build [.U,.U,.U,.i 0,.U] [(0,4)]) [.T 20],.G 6 5 [.U,.U,.U,.i 0,.U],
 .Q 5 5 6 21] [] (.seq (.s [.m 7 (.i 0)] [] (.block 0 (.loop Rf))) (.s [
 .A 82 5 5 6,.o 83 (.build [.i 0,.i 0] []) [],.Q 1 5 2 82,
 .S 2 2 3 83] [6,83] .ret)))))) }
def Rg:bw:=
 (.seq (.s [.v 34 7,.e 35 0 3,.e 36 2 35,.k 37 2 36,
 .v 38 5,.X 39 6 37 38,.E 40 1 39,.D 41 40,.H 42 41,
 .J 43 .lss 34 42] [34,35,36,38,42] (.w 43 [7] 2)) (.seq (.block 3 (.g [.v 46 6,
 .N 47 46,.E 48 0 47,.D 49 48,.v 50 7,.X 51 1 49 50,
 .n (.store 1) [.T 51,.b true]] [46,50])) (.g [.v 44 7,.I 45 .add 44 1,
 .v 7 45] [44,45])))
def Rh:bw:=
 (.seq (.s [.v 17 5,.e 18 4 3,.k 19 2 18,.H 20 19,
 .J 21 .lss 17 20] [17,18,20] (.w 21 [3,5] 0)) (.seq (.block 1 (.s [.e 24 4 3,
 .k 25 2 24,.v 26 5,.X 27 3 25 26,.E 28 0 27,
 .D 29 28,.H 30 29,.o 31 (.sF 1 1 [.bool false] true) [.t 30,.t 30],
 .o 32 (.build [.U,.i 0,.i 0] [(0,1)]) [.T 31],.o 33 (.box 3) [.T 32],.v 6 33] [24,26,30,33] (.seq (.s [
 .m 7 (.i 0)] [] (.block 2 (.loop Rg))) (.s [.v 52 6,.e 53 4 3,
 .k 54 2 53,.v 55 5,.X 56 3 54 55,.E 57 1 56,
 .D 58 57,.p 59 53 52 58] [52,53,55,59] (.s [.v 60 6,.N 61 60,
 .E 62 1 61,.E 63 0 62,.D 64 63,.I 65 .neq 64 0] [60,64]
 (.cond (.T 65) [3,5] (.s [.v 66 6,.N 67 66,.E 68 1 67,.L 69 2 68,
 .S 1 2 2 69] [6,66,69] .ret) [6] .skip)))))) (.g [.v 22 5,.I 23 .add 22 1,
 .v 5 23] [22,23])))
def s25:aH:={ eM:=25,mode:=.pure,aF:=1,aP:=4,dj:=[],results:=[.box 2 1 2 true],body:=
 (.s [.B 1 0 3 0,.G 2 1 [.i 0,.i 0]] [] (.s [.A 9 0 3 1,
 .c 10 24 [.T 9],.w 8 10,.x 11 0 8,.u 12 1 8,
 .G 3 2 [.U,.U,.U,.i 0,.U],.G 4 3 [.i 0,.i 0],.Q 2 5 3 11,
 .S 3 2 4 12] [1,12] (.seq (.s [.e 13 0 4,.k 14 3 13,
 .I 15 .neq 14 0] [13,14] (.cond (.T 15) [3] (.s [.A 16 3 2 4,
 .S 1 2 2 16] [4,16] .ret) [4] .skip)) (.seq (.s [.m 5 (.i 0)] [] (.block 0 (.loop Rh)))
 (.s [.o 70 (.build [.i 0,.i 0] []) [],.S 1 2 2 70] [70] .ret))))) }
def Ri:bw:=
 (.seq (.s [.v 21 3,.e 22 0 1,.k 23 0 22,.H 24 23,
 .J 25 .lss 21 24] [21,22,24] (.w 25 [3] 0)) (.seq (.block 1 (.s [.e 28 0 1,
 .k 29 0 28,.v 30 3,.X 31 3 29 30,.E 32 1 31,
 .D 33 32,.H 34 33,.I 35 .gtr 34 8] [28,30,34] (.cond (.T 35) [1,3] (.s [.m 2 (.b true)] [] .ret) [] .skip))) (.g [.v 26 3,.I 27 .add 26 1,
 .v 3 27] [26,27])))
def Rj:bw:=
 (.seq (.s [.v 36 4,.e 37 2 1,.k 38 0 37,.H 39 38,
 .J 40 .lss 36 39] [36,37,39] (.w 40 [1,4] 2)) (.seq (.block 3 (.s [.e 43 2 1,
 .k 44 0 43,.v 45 4,.X 46 7 44 45,.E 47 1 46,
 .D 48 47,.H 49 48,.I 50 .gtr 49 6] [43,45,49] (.cond (.T 50) [1,4] (.s [.m 2 (.b true)] [] .ret) [] .skip))) (.g [.v 41 4,.I 42 .add 41 1,
 .v 4 42] [41,42])))
def s26:aH:={ eM:=26,mode:=.pure,aF:=1,aP:=1,dj:=[],results:=[.tmp 2 false],body:=
 (.s [.B 1 0 3 0,.m 2 (.b false)] [2] (.seq (.s [.e 5 0 1,
 .k 6 0 5,.H 7 6,.I 8 .gtr 7 12,.v 9 8,.ez 10 1 1 9,
 .kz 11 0 10 9,.Hz 12 11 9,.Iz 13 .gtr 12 8 9,
 .P 14 9 13,.v 15 14,.ez 16 2 1 15,.kz 17 0 16 15,
 .Hz 18 17 15,.Iz 19 .gtr 18 16 15,
 .P 20 15 19] [5,7,8,9,10,11,12,13,14,15,16,17,18,19] (.cond (.T 20) [1] (.s [
 .m 2 (.b true)] [] .ret) [] .skip)) (.seq (.s [.m 3 (.i 0)] [] (.block 0 (.loop Ri)))
 (.seq (.s [.m 4 (.i 0)] [] (.block 2 (.loop Rj))) (.s [.m 2 (.b false)] []
 .ret))))) }
def s27:aH:={ eM:=27,mode:=.kg,aF:=2,aP:=1,dj:=[],results:=[.tmp 4 false],body:=
 (.s [.o 3 (.qV 0 3) [.t 1],.m 4 (.i 0)] [1,4] (.seq (.r [.v 5 0,.v 6 0,
 .N 7 6,.E 8 6 7,.E 9 1 8,.o 10 (.load false 1 true) [.T 9],.A 11 0 3 3,
 .o 12 (.lit 3 1 [.i 0,.i 0,.i 0] [0]) [.t 11],.o 13 (.append 3 24) [.T 10,.T 12],.N 14 5,.E 15 6 14,
 .E 16 1 15,.n (.store 1) [.T 16,.T 13]] (some []) [3,5,6,11]) (.s [.v 17 0,.N 18 17,
 .E 19 6 18,.E 20 1 19,.D 21 20,.H 22 21,
 .I 23 .sub 22 1,.v 4 23] [0,17,22,23] .ret))) }
def Rk:bw:=
 (.seq (.s [.v 5 4,.v 6 1,.H 7 6,.J 8 .lss 5 7] [5,7] (.w 8 [0,1,4] 0)) (.seq (.block 1 (.g [.v 11 0,.v 12 1,.v 13 4,.X 14 9 12 13,
 .L 15 9 14,.p 16 54 11 15] [11,13,16])) (.g [.v 9 4,
 .I 10 .add 9 1,.v 4 10] [9,10])))
def s28:aH:={ eM:=28,mode:=.zg,aF:=2,aP:=0,dj:=[],results:=[],body:=
 (.s [.m 4 (.i 0)] [] (.block 0 (.loop Rk))) }
def s29:aH:={ eM:=29,mode:=.zg,aF:=1,aP:=0,dj:=[],results:=[],body:=
 (.seq (.s [.v 3 0,.N 4 3,.E 5 6 4,.E 6 2 5,.D 7 6,
 .o 8 (.un .not) [.t 7]] [3,7] (.cond (.T 8) [] (.s [.v 9 0,
 .o 10 (.build [.i 0,.i 0,.i 0,.i 0,.i 0,.U] [(0,1),(1,1)]) [.i 18,.const (.i (-1))],
 .p 11 55 9 10] [0,9,11] .ret) [] .skip)) (.s [.v 12 0,.v 13 0,.N 14 13,
 .E 15 6 14,.E 16 3 15,.L 17 3 16,.q 18 27 12 17,
 .v 2 18] [12,13,17,18] (.seq (.s [.v 19 0,.N 20 19,.E 21 6 20,
 .E 22 3 21,.L 23 3 22,.a 24 34 23] [19,23] (.cond (.T 24) [] (.g [.v 25 0,
 .v 26 2,.o 27 (.build [.i 0,.i 0,.i 0,.i 0,.i 0,.U] [(0,1),(1,1)]) [.i 2,.t 26],
 .p 28 55 25 27] [25,26,28]) [] (.g [.v 29 0,.v 30 2,
 .o 31 (.build [.i 0,.i 0,.i 0,.i 0,.i 0,.U] [(0,1),(1,1)]) [.i 1,.t 30],
 .p 32 55 29 31] [29,30,32]))) (.g [.v 33 0,.v 34 2,
 .o 35 (.build [.i 0,.i 0,.i 0,.i 0,.i 0,.U] [(0,1),(1,1)]) [.i 18,.t 34],
 .p 36 55 33 35] [0,2,33,34,36])))) }
def Rl:bw:=
 (.seq (.s [.v 11 5,.v 12 0,.H 13 12,.J 14 .lss 11 13] [11,13] (.w 14 [0,1,5] 0)) (.seq (.block 1 (.seq (.r [.v 17 0,.v 18 5,.X 19 4 17 18,
 .L 20 4 19,.v 21 1,.v 22 5,.X 23 4 21 22,.L 24 4 23,
 .o 25 (.qj (.flat [.str,.int,.int,.int]) true) [.t 20,.t 24]] (some []) [18,20,22,24]) (.cond (.T 25) [0,1,5] (.s [
 .m 4 (.b false)] [] .ret) [] .skip))) (.g [.v 15 5,.I 16 .add 15 1,
 .v 5 16] [15,16])))
def s30:aH:={ eM:=30,mode:=.pure,aF:=2,aP:=0,dj:=[],results:=[.tmp 4 false],body:=
 (.s [.m 4 (.b false)] [4] (.seq (.s [.v 6 0,.H 7 6,.v 8 1,
 .H 9 8,.J 10 .neq 7 9] [7,9] (.cond (.T 10) [0,1] (.s [.m 4 (.b false)] [] .ret) []
 .skip)) (.seq (.s [.m 5 (.i 0)] [] (.block 0 (.loop Rl))) (.s [
 .m 4 (.b true)] [] .ret)))) }
def Rm:bw:=
 (.seq (.s [.v 44 5,.e 45 1 2,.k 46 0 45,.H 47 46,
 .J 48 .lss 44 47] [44,45,47] (.w 48 [5] 0)) (.seq (.block 1 (.seq (.r [.e 51 1 2,
 .k 52 0 51,.v 53 5,.X 54 3 52 53,.L 55 3 54,
 .e 56 1 3,.k 57 1 56,.v 58 5,.X 59 3 57 58,
 .L 60 3 59,.o 61 (.qj (.flat [.int,.int,.int]) true) [.t 55,.t 60]] (some []) [51,53,55,56,58,60]) (.cond (.T 61) [2,3,5] (.s [.m 4 (.b false)] [] .ret) [] .skip))) (.g [.v 49 5,.I 50 .add 49 1,
 .v 5 50] [49,50])))
def Rn:bw:=
 (.seq (.s [.v 62 6,.e 63 6 2,.k 64 0 63,.H 65 64,
 .J 66 .lss 62 65] [62,63,65] (.w 66 [2,3,6] 2)) (.seq (.block 3 (.seq (.r [.e 69 6 2,
 .k 70 0 69,.v 71 6,.X 72 6 70 71,.L 73 6 72,
 .e 74 6 3,.k 75 1 74,.v 76 6,.X 77 6 75 76,
 .L 78 6 77,.c 79 56 [.T 73,.T 78],.o 80 (.un .not) [.t 79]] (some []) [69,71,74,76,79]) (.cond (.T 80) [2,3,6] (.s [.m 4 (.b false)] [] .ret) [] .skip))) (.g [.v 67 6,.I 68 .add 67 1,
 .v 6 68] [67,68])))
def s31:aH:={ eM:=31,mode:=.pure,aF:=2,aP:=2,dj:=[],results:=[.tmp 4 false],body:=
 (.s [.B 2 0 7 0,.B 3 1 7 1,.m 4 (.b false)] [4] (.seq (.s [
 .e 7 0 2,.k 8 0 7,.e 9 0 3,.k 10 1 9,
 .J 11 .neq 8 10,.v 12 11,.ez 13 2 2 12,.kz 14 0 13 12,
 .ez 15 2 3 12,.kz 16 1 15 12,.z 17 (.qj (.sc .bool) true) [.t 14,.t 16] 12,
 .P 18 12 17,.v 19 18,.ez 20 3 2 19,.z 21 (.fD 0 true 3 false) [.t 20] 19,
 .ez 22 3 3 19,.z 23 (.fD 1 true 3 false) [.t 22] 19,.z 24 (.qj (.flat [.int,.int,.int]) true) [.t 21,.t 23] 19,
 .P 25 19 24,.v 26 25,.ez 27 1 2 26,.kz 28 0 27 26,
 .Hz 29 28 26,.ez 30 1 3 26,.kz 31 1 30 26,.Hz 32 31 26,
 .Jz 33 .neq 29 32 26,.P 34 26 33,.v 35 34,.ez 36 6 2 35,
 .kz 37 0 36 35,.Hz 38 37 35,.ez 39 6 3 35,.kz 40 1 39 35,
 .Hz 41 40 35,.Jz 42 .neq 38 41 35,
 .P 43 35 42] [7,8,9,10,11,12,13,14,15,16,17,18,19,20,21,22,23,24,25,26,27,28,29,30,31,32,33,34,35,36,37,38,39,40,41,42]
 (.cond (.T 43) [2,3] (.s [.m 4 (.b false)] [] .ret) [] .skip)) (.seq (.s [
 .m 5 (.i 0)] [] (.block 0 (.loop Rm))) (.seq (.s [.m 6 (.i 0)] [] (.block 2
 (.loop Rn))) (.s [.m 4 (.b true)] [] .ret))))) }
def s34:aH:={ eM:=34,mode:=.pure,aF:=1,aP:=1,dj:=[],results:=[.tmp 2 false],body:=
 (.s [.o 1 (.qV 0 3) [.t 0],.m 2 (.b false)] [0,2] (.s [.e 3 0 1,
 .k 4 0 3,.I 5 .eql 4 3,.v 6 5,.ez 7 2 1 6,
 .kz 8 0 7 6,.Iz 9 .gtr 8 0 6,.P 10 6 9,
 .v 2 10] [1,3,4,5,6,7,8,9,10] .ret)) }
def Ro:bw:=
 (.seq (.s [.v 49 1,.v 50 0,.o 51 (.len .str) [.t 50],.J 52 .lss 49 51,.v 53 52,
 .vy 54 0 53,.vy 55 1 53,.y 56 .index [.t 54,.t 55] 53,.y 57 (.rU .neq) [.t 56,.const (.int .u8 10)] 53,
 .O 58 53 57] [49,50,51,52,53,54,55,56,57] (.w 58 [] 3)) (.block 4 (.g [
 .v 59 1,.I 60 .add 59 1,.v 1 60] [59,60])))
def Rp:bw:=
 (.seq (.s [.v 5 1,.v 6 0,.o 7 (.len .str) [.t 6],.J 8 .lss 5 7] [5,6,7] (.w 8 [0] 0)) (.block 1 (.block 2 (.s [.v 11 0,.v 12 1,.o 13 .index [.t 11,.t 12],
 .o 14 (.rU .eql) [.t 13,.const (.int .u8 32)],.v 15 14,.vz 16 0 15,.vz 17 1 15,.z 18 .index [.t 16,.t 17] 15,
 .z 19 (.rU .eql) [.t 18,.const (.int .u8 9)] 15,.P 20 15 19,.v 21 20,.vz 22 0 21,
 .vz 23 1 21,.z 24 .index [.t 22,.t 23] 21,.z 25 (.rU .eql) [.t 24,.const (.int .u8 10)] 21,.P 26 21 25,
 .v 27 26,.vz 28 0 27,.vz 29 1 27,.z 30 .index [.t 28,.t 29] 27,.z 31 (.rU .eql) [.t 30,.const (.int .u8 13)] 27,
 .P 32 27 31,.v 10 32] [11,12,13,14,15,16,17,18,19,20,21,22,23,24,25,26,27,28,29,30,31,32]
 (.cond (.T 10) [] (.g [.v 33 1,.I 34 .add 33 1,.v 1 34] [33,34]) [] (.s [
 .v 36 0,.o 37 (.len .str) [.t 36],.v 38 1,.J 39 .sub 37 38,.I 40 .geq 39 2,
 .v 41 40,.vy 42 0 41,.vy 43 1 41,.vy 44 1 41,.Iy 45 .add 44 2 41,
 .y 46 (.slice true true true false 0) [.t 42,.t 43,.t 45] 41,.y 47 (.rU .eql) [.t 46,.const (.str [47,47])] 41,
 .O 48 41 47,.v 35 48] [36,37,38,39,40,41,42,43,44,45,46,47,48] (.cond (.T 35) [] (.block 3
 (.loop Ro)) [0] (.s [.v 9 1,.v 4 9] [1,9] .ret))))))))
def s36:aH:={ eM:=36,mode:=.pure,aF:=2,aP:=0,dj:=[],results:=[.tmp 4 false],body:=
 (.s [.m 4 (.i 0)] [4] (.seq (.block 0 (.loop Rp)) (.s [.v 61 1,
 .v 4 61] [1,61] .ret))) }
def K8:aH:={ eM:=37,mode:=.pure,aF:=2,aP:=1,dj:=[],results:=[.box 4 0 4 true,.tmp 5 false],body:=
 (.s [.o 4 (.bT 0 [.i 0,.str [],.i 0,.i 0]) [],.m 5 (.i 0)] [5] (.seq (.block 0 (.s [.v 13 0,.v 14 1,.o 15 .index [.t 13,.t 14],.a 16 66 15,.v 12 16] [13,14,15,16]
 (.cond (.T 12) [] (.s [.v 17 0,.v 18 1,.c 19 67 [.t 17,.t 18,.b false],
 .v 6 19] [17,18,19] (.s [.v 20 0,.v 21 1,.v 22 1,.v 23 6,
 .J 24 .add 22 23,.o 25 (.slice true true true false 0) [.t 20,.t 21,.t 24],.v 7 25] [0,20,21,22,23,24,25] (.seq (.s [.v 26 7,.a 27 68 26] [26] (.cond (.T 27) [] (.s [.v 28 7,.v 29 1,
 .o 30 (.build [.i 0,.str [],.i 0,.i 0] [(0,1),(1,1),(3,1)]) [.i 3,.t 28,.t 29],.v 31 6,
 .S 0 4 4 30,.v 5 31] [1,6,7,28,29,30,31] .ret) [] .skip)) (.seq (.s [.v 32 7,
 .a 33 69 32] [32] (.cond (.T 33) [] (.s [.v 34 7,.v 35 1,
 .o 36 (.build [.i 0,.str [],.i 0,.i 0] [(0,1),(1,1),(3,1)]) [.i 1,.t 34,.t 35],.v 37 6,
 .S 0 4 4 36,.v 5 37] [1,6,7,34,35,36,37] .ret) [1,6,7] .skip)) (.s [
 .o 38 (.build [.i 0,.str [],.i 0,.i 0] []) [],.S 0 4 4 38,.m 5 (.i 0)] [38] .ret))))) []
 (.s [.v 40 0,.v 41 1,.o 42 .index [.t 40,.t 41],.a 43 70 42,.v 39 43] [40,41,42,43]
 (.cond (.T 39) [] (.s [.v 44 0,.v 45 1,.c 46 67 [.t 44,.t 45,.b true],
 .v 8 46] [44,45,46] (.s [.v 48 0,.v 49 1,.v 50 1,.v 51 8,
 .J 52 .add 50 51,.o 53 (.slice true true true false 0) [.t 48,.t 49,.t 52],.a 54 71 53,.w 47 54,
 .x 55 0 47,.u 56 1 47,.v 9 55,.v 10 56] [48,49,50,51,52,53,55,56] (.seq (.s [
 .v 57 10,.o 58 (.un .not) [.t 57],.v 59 58,.vz 60 8 59,.Iz 61 .gtr 60 1 59,
 .vz 62 61 59,.vy 63 0 62,.vy 64 1 62,.y 65 .index [.t 63,.t 64] 62,.y 66 (.rU .eql) [.t 65,.const (.int .u8 48)] 62,
 .z 67 .pick [.t 62,.t 66,.b false] 59,.P 68 59 67,.v 69 68,.vz 70 1 69,
 .vz 71 8 69,.Jz 72 .add 70 71 69,.vz 73 0 69,.z 74 (.len .str) [.t 73] 69,.Jz 75 .lss 72 74 69,
 .vz 76 75 69,.vy 77 0 76,.vy 78 1 76,.vy 79 8 76,.Jy 80 .add 78 79 76,
 .y 81 .index [.t 77,.t 80] 76,.y 82 (.call 66) [.t 81] 76,.z 83 .pick [.t 76,.t 82,.b false] 69,
 .P 84 69 83] [0,10,57,58,59,60,61,62,63,64,65,66,67,68,69,70,71,72,73,74,75,76,77,78,79,80,81,82,83]
 (.cond (.T 84) [1,8,9] (.s [.o 85 (.build [.i 0,.str [],.i 0,.i 0] []) [],.S 0 4 4 85,
 .m 5 (.i 0)] [85] .ret) [] .skip)) (.s [.v 86 9,.v 87 1,
 .o 88 (.build [.i 0,.str [],.i 0,.i 0] [(0,1),(2,1),(3,1)]) [.i 2,.t 86,.t 87],.v 89 8,
 .S 0 4 4 88,.v 5 89] [1,8,9,86,87,88,89] .ret)))) [] .skip))))) (.s [.v 90 0,.v 91 1,
 .q 92 72 90 91,.v 11 92] [0,90,91,92] (.seq (.s [.v 93 11,
 .o 94 (.rU .eql) [.t 93,.const (.str [])]] [93] (.cond (.T 94) [1,11] (.s [
 .o 95 (.build [.i 0,.str [],.i 0,.i 0] []) [],.S 0 4 4 95,.m 5 (.i 0)] [95] .ret) []
 .skip)) (.s [.v 96 11,.v 97 1,
 .o 98 (.build [.i 0,.str [],.i 0,.i 0] [(0,1),(1,1),(3,1)]) [.i 4,.t 96,.t 97],.v 99 11,
 .o 100 (.len .str) [.t 99],.S 0 4 4 98,.v 5 100] [1,11,96,97,98,99,100] .ret))))) }
def s38:aH:={ eM:=38,mode:=.kg,aF:=1,aP:=1,dj:=[],results:=[.tmp 2 false],body:=
 (.s [.o 2 .move [.const (.str [])]] [2] (.s [.v 4 0,.a 5 13 4,
 .o 3 (.bT 0 [.i 0,.str [],.i 0,.i 0]) [],.S 0 4 3 5] [4,5] (.seq (.s [.v 6 0,
 .a 7 12 6,.v 8 7,.ey 9 0 3 8,.ky 10 0 9 8,
 .Iy 11 .eql 10 1 8,.O 12 8 11] [6,7,8,9,10,11] (.cond (.T 12) [] (.s [
 .v 13 0,.N 14 13,.E 15 1 14,.D 16 15,
 .I 17 .add 16 1,.N 18 13,.E 19 1 18,.R 1 19 17] [0,13,16,17] (.s [.e 20 1 3,.k 21 0 20,.v 2 21] [3,20,21] .ret)) [3] .skip)) (.s [
 .v 22 0,.c 23 15 [.t 22,.i 2]] [0,22,23] (.s [.o 2 .move [.const (.str [])]] [] .ret))))) }
def Rq:bw:=
 (.seq (.s [.v 6 0,.c 7 14 [.t 6,.const (.str [91])]] [6] (.w 7 [] 0)) (.block 1 (.seq (.s [.v 8 3,.I 9 .eql 8 3] [8] (.cond (.T 9) [3] (.s [.v 10 0,
 .c 11 15 [.t 10,.i 4]] [0,10,11] (.s [.o 12 (.build [.str [],.i 0] []) [],
 .S 0 2 2 12] [12] .ret)) [] .skip)) (.s [.v 13 0,.N 14 13,.E 15 1 14,
 .D 16 15,.I 17 .add 16 1,.N 18 13,.E 19 1 18,
 .R 1 19 17] [13,16,17] (.g [.v 20 3,.I 21 .add 20 1,
 .v 3 21] [20,21])))))
def Hw:bw:=
 (.seq (.s [.v 43 5,.v 44 3,.J 45 .lss 43 44] [43,44] (.w 45 [0,3,5] 3))
 (.seq (.block 4 (.g [.v 48 0,.c 49 18 [.t 48,.const (.str [93])]] [48,49])) (.g [.v 46 5,
 .I 47 .add 46 1,.v 5 47] [46,47])))
def s39:aH:={ eM:=39,mode:=.kg,aF:=1,aP:=2,dj:=[],results:=[.box 2 0 2 true],body:=
 (.s [.o 2 (.bT 0 [.str [],.i 0]) []] [] (.s [.m 3 (.i 0)] [] (.seq (.block 0
 (.loop Rq)) (.s [.v 22 3,.o 23 (.build [.str [],.i 0] [(1,1)]) [.t 22],.o 4 (.bT 1 [.str [],.i 0]) [],
 .S 1 2 4 23] [22,23] (.seq (.block 2 (.seq (.s [.v 28 0,.c 29 14 [.t 28,.const (.str [105,110,116])],
 .v 27 29] [28,29] (.cond (.t 27) [] .skip [27] (.g [.v 30 0,.c 31 14 [.t 30,.const (.str [98,111,111,108])],
 .v 27 31] [30,31]))) (.cond (.T 27) [] (.s [.v 32 0,.a 33 13 32,.o 34 (.field 1 1 false) [.t 33],
 .e 35 0 4,.S 1 1 35 34] [32,33,34,35] (.g [.v 36 0,.N 37 36,
 .E 38 1 37,.D 39 38,.I 40 .add 39 1,.N 41 36,
 .E 42 1 41,.R 1 42 40] [36,39,40])) [] (.g [.v 24 0,.a 25 38 24,
 .e 26 0 4,.S 1 1 26 25] [24,25,26])))) (.seq (.s [.m 5 (.i 0)] [] (.block 3
 (.loop Hw))) (.s [.A 50 1 2 4,.S 0 2 2 50] [4,50] .ret))))))) }
def Rr:bw:=
 (.seq (.s [.v 6 0,.a 7 12 6,.v 8 7,.vy 9 0 8,.y 10 (.call 14) [.t 9,.const (.str [125])] 8,
 .y 11 (.un .not) [.t 10] 8,.O 12 8 11] [6,7,8,9,10,11] (.w 12 [] 0)) (.block 1 (.g [
 .w 13 3,.v 14 0,.a 15 74 14,
 .o 16 (.lit 9 1 [.i 0,.str [],.str [],.i 0,.U,.U,.U,.i 0,.i 0] [0]) [.T 15],.o 17 (.append 9 136) [.T 13,.T 16],
 .w 3 17] [14])))
def s40:aH:={ eM:=40,mode:=.kg,aF:=1,aP:=0,dj:=[],results:=[.tmp 2 true],body:=
 (.s [.o 2 .move [.const .U]] [2] (.s [.o 3 .move [.const .U]] [] (.s [.v 4 0,
 .c 5 73 [.t 4,.const (.str [123])]] [4,5] (.seq (.block 0 (.loop Rr)) (.s [.v 18 0,
 .c 19 75 [.t 18,.const (.str [125])]] [0,18,19] (.s [.w 20 3,.w 2 20] [] .ret)))))) }
def s41:aH:={ eM:=41,mode:=.pure,aF:=1,aP:=4,dj:=[],results:=[.box 2 1 4 true,.box 3 2 2 true],body:=
 (.s [.B 1 0 3 0,.G 2 1 [.U,.U,.U,.i 0],.G 3 2 [.i 0,.i 0]] []
 (.s [.o 6 (.build [.U,.i 0,.i 0] []) [],.o 7 (.box 3) [.T 6],.v 4 7] [7] (.seq (.r [.v 8 4,
 .e 9 0 1,.k 10 0 9,.p 11 76 8 10,.v 12 4,.e 13 1 1,
 .k 14 0 13,.p 15 77 12 14,.v 16 4,.e 17 2 1,
 .k 18 0 17,.p 19 78 16 18,
 .o 20 (.build [.U,.U,.U,.i 0] [(0,1),(1,1),(2,1)]) [.T 11,.T 15,.T 19],.G 5 3 [.U,.U,.U,.i 0],
 .Q 3 4 5 20] (some []) [1,8,9,12,13,16,17]) (.s [.e 21 2 5,.k 22 3 21,
 .c 23 79 [.T 22,.const (.fn 80 [] [])],.e 24 3 5,.S 3 1 24 23] [21,23,24] (.seq (.s [
 .e 25 3 5,.k 26 3 25,.I 27 .lss 26 0] [25,26] (.cond (.T 27) []
 (.g [.v 28 4,.c 29 81 [.t 28,.i 0]] [28,29]) [] .skip)) (.seq (.s [.v 30 4,
 .N 31 30,.E 32 1 31,.E 33 0 32,.D 34 33,
 .I 35 .neq 34 0] [30,34] (.cond (.T 35) [5] (.seq (.r [.o 36 (.build [.U,.U,.U,.i 0] []) [],
 .v 37 4,.N 38 37,.E 39 1 38,.L 40 2 39,.Q 1 4 2 36,
 .S 2 2 3 40] (some []) [4,37,40]) .ret) [4] .skip)) (.s [.A 41 3 4 5,
 .o 42 (.build [.i 0,.i 0] []) [],.Q 1 4 2 41,.S 2 2 3 42] [5,42] .ret))))))) }
def s42:aH:={ eM:=42,mode:=.kg,aF:=3,aP:=3,dj:=[],results:=[.box 6 2 3 true],body:=
 (.s [.B 4 0 7 1,.B 5 1 6 2,.G 6 2 [.U,.U,.i 0]] [] (.seq (.r [
 .v 8 0,.v 9 0,.A 10 1 6 5,.e 11 1 5,.k 12 1 11,
 .c 13 82 [.T 12],.N 14 8,.E 15 5 14,.n (.store 6) [.T 15,.T 10],.N 16 9,
 .E 17 11 16,.n (.store 1) [.T 17,.T 13]] (some []) [5,8,9,11]) (.s [.v 18 0,.e 19 5 4,
 .k 20 0 19,.p 21 83 18 20,.w 7 21] [18,19] (.seq (.r [.v 22 0,
 .N 23 22,.E 24 11 23,.D 25 24,.w 26 7,.e 27 6 4,
 .k 28 0 27,.o 29 (.build [.U,.U,.i 0] [(0,1),(1,1),(2,1)]) [.T 25,.T 26,.t 28],
 .Q 2 3 6 29] (some []) [0,4,22,27,28]) .ret)))) }
def s43:aH:={ eM:=43,mode:=.kg,aF:=1,aP:=0,dj:=[],results:=[.tmp 2 false],body:=
 (.s [.m 2 (.b false)] [2] (.s [.v 3 0,.N 4 3,.E 5 12 4,
 .E 6 0 5,.D 7 6,.I 8 .neq 7 0,.v 2 8] [0,3,7,8] .ret)) }
def Rs:bw:=
 (.s [.J 14 .lss 13 12] [] (.seq (.w 14 [0,11,12,13] 0) (.seq (.block 1 (.s [
 .Y 15 9 11 13,.L 16 9 15,
 .o 8 (.bT 0 [.i 0,.str [],.str [],.i 0,.U,.U,.U,.i 0,.i 0]) [],.Q 0 9 8 16] [] (.g [
 .v 17 0,.A 18 0 9 8,.w 19 2,.c 20 85 [.t 17,.T 18,.T 19],.w 2 20] [8,17])))
 (.g [.I 21 .add 13 1,.v 13 21] [21]))))
def s44:aH:={ eM:=44,mode:=.zg,aF:=3,aP:=1,dj:=[],results:=[.tmp 6 true],body:=
 (.s [.o 6 .move [.const .U]] [6] (.s [.w 9 2,.c 10 84 [.T 9],.w 2 10] [] (.seq (.s [.w 11 1,.h 12 11,.m 13 (.i 0)] [] (.block 0 (.loop Rs))) (.s [
 .w 22 2,.w 6 22] [] .ret)))) }
def Rt:bw:=
 (.s [.J 9 .lss 8 7] [] (.seq (.w 9 [0,6,7,8] 0) (.seq (.block 1 (.s [
 .Y 10 9 6 8,.L 11 9 10,
 .o 5 (.bT 0 [.i 0,.str [],.str [],.i 0,.U,.U,.U,.i 0,.i 0]) [],.Q 0 9 5 11] [] (.g [
 .v 12 0,.A 13 0 9 5,.p 14 86 12 13] [5,12,14]))) (.g [
 .I 15 .add 8 1,.v 8 15] [15]))))
def s45:aH:={ eM:=45,mode:=.zg,aF:=2,aP:=1,dj:=[],results:=[],body:=
 (.s [.w 6 1,.h 7 6,.m 8 (.i 0)] [] (.block 0 (.loop Rt))) }
def Zl:aH:={ eM:=46,mode:=.pure,aF:=1,aP:=1,dj:=[],results:=[.tmp 2 false],body:=
 (.s [.o 1 (.qV 0 3) [.t 0],.m 2 (.b false)] [0,2] (.s [.e 3 0 1,
 .k 4 0 3,.I 5 .eql 4 3,.v 6 5,.ez 7 2 1 6,
 .kz 8 0 7 6,.Iz 9 .gtr 8 0 6,.P 10 6 9,
 .v 2 10] [1,3,4,5,6,7,8,9,10] .ret)) }
def s47:aH:={ eM:=47,mode:=.kg,aF:=2,aP:=1,dj:=[],results:=[.tmp 4 false],body:=
 (.s [.o 3 (.qV 0 3) [.t 1],.m 4 (.i 0)] [1,4] (.seq (.r [.v 5 0,.v 6 0,
 .N 7 6,.E 8 5 7,.E 9 1 8,.o 10 (.load false 1 true) [.T 9],.A 11 0 3 3,
 .o 12 (.lit 3 1 [.i 0,.i 0,.i 0] [0]) [.t 11],.o 13 (.append 3 24) [.T 10,.T 12],.N 14 5,.E 15 5 14,
 .E 16 1 15,.n (.store 1) [.T 16,.T 13]] (some []) [3,5,6,11]) (.s [.v 17 0,.N 18 17,
 .E 19 5 18,.E 20 1 19,.D 21 20,.H 22 21,
 .I 23 .sub 22 1,.v 4 23] [0,17,22,23] .ret))) }
def s48:aH:={ eM:=48,mode:=.zg,aF:=2,aP:=1,dj:=[],results:=[.tmp 4 false],body:=
 (.s [.B 3 0 6 1,.m 4 (.i 0)] [4] (.seq (.r [.v 5 0,.v 6 0,
 .N 7 6,.E 8 5 7,.E 9 6 8,.D 10 9,.A 11 0 6 3,
 .o 12 (.lit 6 1 [.i 0,.i 0,.i 0,.i 0,.i 0,.U] [0]) [.T 11],.o 13 (.jx 6 64) [.T 10,.T 12],
 .N 14 5,.E 15 5 14,.E 16 6 15,.n (.store 1) [.T 16,.T 13]] (some []) [3,5,6]) (.s [
 .v 17 0,.N 18 17,.E 19 5 18,.E 20 6 19,.D 21 20,
 .H 22 21,.I 23 .sub 22 1,.v 4 23] [0,17,22,23] .ret))) }
def Ru:bw:=
 (.seq (.s [.v 29 6,.v 30 5,.J 31 .lss 29 30] [29,30] (.w 31 [6] 2)) (.seq
 (.block 3 (.seq (.r [.v 34 4,.v 35 6,.X 36 1 34 35,.D 37 36,
 .v 38 4,.v 39 5,.X 40 1 38 39,.D 41 40,
 .J 42 .eql 37 41] (some []) [35,37,39,41]) (.cond (.T 42) [4,6] (.s [.o 43 (.build [.U,.U,.U,.i 0] []) [],
 .e 44 0 1,.k 45 0 44,.v 46 5,.X 47 3 45 46,.E 48 2 47,
 .D 49 48,.a 50 87 49,.Q 1 4 2 43,.S 2 2 3 50] [1,5,44,46,49,50] .ret) []
 .skip))) (.g [.v 32 6,.I 33 .add 32 1,.v 6 33] [32,33])))
def Rv:bw:=
 (.seq (.s [.v 23 5,.v 24 4,.H 25 24,.J 26 .lss 23 25] [23,25] (.w 26 [5] 0)) (.seq (.block 1 (.s [.m 6 (.i 0)] [] (.block 2 (.loop Ru)))) (.g [.v 27 5,
 .I 28 .add 27 1,.v 5 28] [27,28])))
def Rw:bw:=
 (.seq (.s [.v 52 8,.e 53 0 1,.k 54 0 53,.H 55 54,
 .J 56 .lss 52 55] [52,53,55] (.w 56 [8] 4)) (.seq (.block 5 (.s [.v 60 4,
 .e 61 0 1,.k 62 0 61,.v 63 8,.X 64 3 62 63,.E 65 1 64,
 .D 66 65,.c 67 88 [.T 60,.T 66],.w 59 67,.x 68 0 59,.u 69 1 59,
 .G 10 4 [.i 0,.i 0],.w 9 68,.S 4 2 10 69] [61,63,69] (.seq (.s [
 .e 70 0 10,.k 71 4 70,.I 72 .neq 71 0] [70,71] (.cond (.T 72) [1,4,7,8,9]
 (.seq (.r [.o 73 (.build [.U,.U,.U,.i 0] []) [],.A 74 4 2 10,.Q 1 4 2 73,
 .S 2 2 3 74] (some []) [10,74]) .ret) [10] .skip)) (.r [.e 75 0 7,.o 76 (.fD 3 false 1 true) [.t 75],
 .v 77 4,.v 78 8,.X 79 1 77 78,.D 80 79,.w 81 9,
 .o 82 (.build [.str [],.U] [(0,1),(1,1)]) [.t 80,.T 81],.o 83 (.lit 2 1 [.str [],.U] [0]) [.T 82],.o 84 (.append 2 40) [.T 76,.T 83],
 .e 85 0 7,.Q 3 1 85 84] (some []) [75,78,80,85])))) (.g [.v 57 8,
 .I 58 .add 57 1,.v 8 58] [57,58])))
def Rx:bw:=
 (.seq (.s [.v 112 15,.v 113 13,.J 114 .lss 112 113] [112,113] (.w 114 [15] 8)) (.seq (.block 9 (.seq (.r [.e 117 2 1,.k 118 0 117,.v 119 15,
 .X 120 7 118 119,.E 121 0 120,.D 122 121,.e 123 0 14,
 .k 124 6 123,.J 125 .eql 122 124] (some []) [117,119,122,123,124]) (.cond (.T 125) [1,4,7,13,15] (.s [
 .o 126 (.build [.U,.U,.U,.i 0] []) [],.e 127 6 14,.k 128 6 127,.a 129 87 128,
 .Q 1 4 2 126,.S 2 2 3 129] [14,127,128,129] .ret) [] .skip))) (.g [.v 115 15,
 .I 116 .add 115 1,.v 15 116] [115,116])))
def Ry:bw:=
 (.seq (.s [.v 100 13,.e 101 2 1,.k 102 0 101,.H 103 102,
 .J 104 .lss 100 103] [100,101,103] (.w 104 [1,4,13] 6)) (.seq (.block 7 (.s [
 .e 107 2 1,.k 108 0 107,.v 109 13,.X 110 7 108 109,
 .L 111 7 110,.o 14 (.bT 6 [.str [],.U,.bool false,.str [],.i 0,.U,.i 0]) [],
 .Q 6 7 14 111] [107,109] (.seq (.s [.m 15 (.i 0)] [] (.block 8 (.loop Rx))) (.s [.v 131 4,.e 132 1 14,.k 133 6 132,.c 134 88 [.T 131,.T 133],
 .w 130 134,.x 135 0 130,.u 136 1 130,.G 17 7 [.i 0,.i 0],.w 16 135,
 .S 7 2 17 136] [132,136] (.seq (.s [.e 137 0 17,.k 138 7 137,
 .I 139 .neq 138 0] [137,138] (.cond (.T 139) [1,4,7,13,14,16] (.seq (.r [
 .o 140 (.build [.U,.U,.U,.i 0] []) [],.A 141 7 2 17,.Q 1 4 2 140,
 .S 2 2 3 141] (some []) [17,141]) .ret) [17] .skip)) (.s [.e 142 0 14,
 .k 143 6 142,.v 144 16,.e 145 2 14,.k 146 6 145,
 .o 147 (.build [.str [],.U,.bool false,.i 0,.i 0,.i 0] [(0,1),(1,1),(2,1)]) [.t 143,.T 144,.t 146],
 .o 18 (.bT 8 [.str [],.U,.bool false,.i 0,.i 0,.i 0]) [],.Q 8 6 18 147] [142,143,145,146] (.seq (.s [.e 148 2 14,.k 149 6 148] [148] (.cond (.T 149) [] (.s [.v 151 4,
 .e 152 3 14,.A 153 6 2 152,.c 154 89 [.T 151,.t 153],.w 150 154,
 .x 155 0 150,.u 156 1 150,.G 19 9 [.i 0,.i 0,.i 0],.S 9 3 19 155,
 .v 20 156] [152,153,155,156] (.seq (.s [.v 157 20,.o 158 (.un .not) [.t 157]] [20,157]
 (.cond (.T 158) [1,4,7,13,16,18,19] (.s [.o 159 (.build [.U,.U,.U,.i 0] []) [],.e 160 6 14,
 .k 161 6 160,.a 162 87 161,.Q 1 4 2 159,.S 2 2 3 162] [14,160,161,162]
 .ret) [] .skip)) (.g [.A 163 9 3 19,.e 164 3 18,.S 8 3 164 163] [19,163,164]))) []
 .skip)) (.seq (.s [.e 165 0 14,.k 166 6 165,
 .o 167 (.rU .eql) [.t 166,.const (.str [109,97,105,110])],.v 168 167,.y 169 .move [.T 16] 168,.Hy 170 169 168,
 .Iy 171 .eql 170 0 168,.O 172 168 171,.v 173 172,
 .ey 174 2 14 173,.ky 175 6 174 173,.y 176 (.un .not) [.t 175] 173,
 .O 177 173 176] [14,16,165,166,167,168,169,170,171,172,173,174,175,176] (.cond (.T 177) [] (.g [
 .v 178 13,.e 179 3 7,.S 3 1 179 178] [178,179]) [] .skip)) (.g [.e 180 2 7,
 .o 181 (.fD 3 false 1 true) [.t 180],.A 182 8 6 18,
 .o 183 (.lit 6 1 [.str [],.U,.bool false,.i 0,.i 0,.i 0] [0]) [.T 182],.o 184 (.append 6 72) [.T 181,.T 183],
 .e 185 2 7,.Q 3 1 185 184] [18,180,185]))))))))) (.g [.v 105 13,
 .I 106 .add 105 1,.v 13 106] [105,106])))
def s49:aH:={ eM:=49,mode:=.pure,aF:=1,aP:=10,dj:=[],results:=[.box 2 1 4 true,.box 3 2 2 true],body:=
 (.s [.B 1 0 3 0,.G 2 1 [.U,.U,.U,.i 0],.G 3 2 [.i 0,.i 0]] []
 (.s [.A 21 0 3 1,.c 22 50 [.T 21],.w 4 22] [] (.seq (.s [
 .m 5 (.i 0)] [] (.block 0 (.loop Rv))) (.s [
 .o 51 (.build [.U,.U,.U,.i 0] [(3,1)]) [.const (.i (-1))],.G 7 3 [.U,.U,.U,.i 0],
 .Q 3 4 7 51] [] (.seq (.s [.m 8 (.i 0)] [] (.block 4 (.loop Rw))) (.s [
 .v 87 4,.e 88 1 1,.k 89 0 88,.c 90 88 [.T 87,.T 89],.w 86 90,
 .x 91 0 86,.u 92 1 86,.G 12 5 [.i 0,.i 0],.w 11 91,
 .S 5 2 12 92] [88,92] (.seq (.s [.e 93 0 12,.k 94 5 93,
 .I 95 .neq 94 0] [93,94] (.cond (.T 95) [1,4,7,11] (.seq (.r [
 .o 96 (.build [.U,.U,.U,.i 0] []) [],.A 97 5 2 12,.Q 1 4 2 96,
 .S 2 2 3 97] (some []) [12,97]) .ret) [12] .skip)) (.s [.w 98 11,.e 99 1 7,
 .Q 3 1 99 98] [99] (.seq (.s [.m 13 (.i 0)] [] (.block 6 (.loop Ry))) (.seq (.s [.e 186 3 7,.k 187 3 186,.I 188 .lss 187 0] [186,187]
 (.cond (.T 188) [7] (.s [.o 189 (.build [.U,.U,.U,.i 0] []) [],.c 190 87 [.i 0],
 .Q 1 4 2 189,.S 2 2 3 190] [190] .ret) [] .skip)) (.s [.A 191 3 4 7,
 .o 192 (.build [.i 0,.i 0] []) [],.Q 1 4 2 191,.S 2 2 3 192] [7,192] .ret))))))))))) }
def Rz:bw:=
 (.seq (.s [.v 5 4,.e 6 0 1,.k 7 0 6,.H 8 7,
 .J 9 .lss 5 8] [5,6,8] (.w 9 [1,4] 0)) (.seq (.block 1 (.g [.w 12 3,
 .e 13 0 1,.k 14 0 13,.v 15 4,.X 16 3 14 15,.E 17 0 16,
 .D 18 17,.o 19 (.lit 1 1 [.str []] [0]) [.t 18],.o 20 (.append 1 16) [.T 12,.T 19],.w 3 20] [13,15,18]))
 (.g [.v 10 4,.I 11 .add 10 1,.v 4 11] [10,11])))
def s50:aH:={ eM:=50,mode:=.pure,aF:=1,aP:=1,dj:=[],results:=[.tmp 2 true],body:=
 (.s [.B 1 0 3 0,.o 2 .move [.const .U]] [2] (.s [.o 3 .move [.const .U]] [] (.seq (.s [
 .m 4 (.i 0)] [] (.block 0 (.loop Rz))) (.s [.w 21 3,.w 2 21] [] .ret)))) }
def Hx:bw:=
 (.seq (.s [.v 7 6,.v 8 1,.H 9 8,.J 10 .lss 7 9,.v 11 10,
 .vy 12 0 11,.y 13 (.call 52) [.t 12] 11,.O 14 11 13] [7,9,10,11,12,13] (.w 14 [0,1,6] 0)) (.seq (.block 1 (.g [.w 17 5,.v 18 0,.v 19 1,.v 20 6,.X 21 9 19 20,
 .L 22 9 21,.p 23 90 18 22,
 .o 24 (.lit 9 1 [.i 0,.str [],.str [],.i 0,.U,.U,.U,.i 0,.i 0] [0]) [.T 23],.o 25 (.append 9 136) [.T 17,.T 24],
 .w 5 25] [18,20])) (.g [.v 15 6,.I 16 .add 15 1,.v 6 16] [15,16])))
def Zm:aH:={ eM:=51,mode:=.kg,aF:=2,aP:=0,dj:=[],results:=[.tmp 4 true],body:=
 (.s [.o 4 .move [.const .U]] [4] (.s [.o 5 .move [.const .U]] [] (.seq (.s [
 .m 6 (.i 0)] [] (.block 0 (.loop Hx))) (.s [.w 26 5,.w 4 26] [] .ret)))) }
def s52:aH:={ eM:=52,mode:=.kg,aF:=1,aP:=0,dj:=[],results:=[.tmp 2 false],body:=
 (.s [.m 2 (.b false)] [2] (.s [.v 3 0,.N 4 3,.E 5 12 4,
 .E 6 0 5,.D 7 6,.I 8 .eql 7 0,.v 2 8] [0,3,7,8] .ret)) }
def La:bw:=
 (.seq (.s [.v 21 6,.e 22 4 5,.k 23 0 22,.H 24 23,
 .J 25 .lss 21 24] [21,22,24] (.w 25 [6] 2)) (.seq (.block 3 (.g [.v 28 0,
 .e 29 4 5,.k 30 0 29,.v 31 6,.X 32 11 30 31,
 .L 33 11 32,.p 34 91 28 33] [28,29,31,34])) (.g [.v 26 6,
 .I 27 .add 26 1,.v 6 27] [26,27])))
def Lb:bw:=
 (.seq (.s [.v 109 10,.v 110 0,.N 111 110,.E 112 0 111,
 .D 113 112,.H 114 113,.J 115 .lss 109 114] [109,110,114] (.w 115 [9,10] 5)) (.seq (.block 6 (.r [.v 118 0,.N 119 118,.E 120 0 119,.D 121 120,
 .v 122 10,.v 123 0,.N 124 123,.E 125 0 124,.D 126 125,
 .v 127 10,.X 128 1 126 127,.D 129 128,.v 130 129,.vy 131 9 130,
 .vy 132 10 130,.y 133 (.indexAddr 1) [.T 131,.t 132] 130,.Dy 134 133 130,
 .O 135 130 134,.X 136 1 121 122,
 .R 1 136 135] (some []) [118,122,123,127,129,130,131,132,133,134,135])) (.g [.v 116 10,
 .I 117 .add 116 1,.v 10 117] [116,117])))
def pZ:bw:=
 (.seq (.s [.v 11 4,.v 12 1,.H 13 12,.J 14 .lss 11 13] [11,13] (.w 14 [0,1,4] 0)) (.seq (.block 1 (.s [.v 17 1,.v 18 4,.X 19 9 17 18,
 .L 20 9 19,.o 5 (.bT 0 [.i 0,.str [],.str [],.i 0,.U,.U,.U,.i 0,.i 0]) [],
 .Q 0 9 5 20] [18] (.seq (.s [.m 6 (.i 0)] [] (.block 2 (.loop La))) (.s [
 .e 35 0 5,.k 36 0 35] [35] (.block 4 (.s [.I 38 .eql 36 1,
 .v 37 38] [38] (.cond (.T 37) [36] (.r [.v 39 0,.N 40 39,.E 41 0 40,
 .D 42 41,.e 43 8 5,.k 44 0 43,.X 45 1 42 44,
 .n (.store 1) [.T 45,.b false]] (some []) [5,39,43,44]) [] (.s [.I 47 .eql 36 2,
 .v 46 47] [47] (.cond (.T 46) [36] (.r [.v 48 0,.N 49 48,.E 50 0 49,
 .D 51 50,.e 52 8 5,.k 53 0 52,.X 54 1 51 53,
 .n (.store 1) [.T 54,.b true]] (some []) [5,48,52,53]) [] (.s [.I 56 .eql 36 3,
 .v 55 56] [56] (.cond (.T 55) [36] (.s [.e 57 8 5,.k 58 0 57,
 .I 59 .geq 58 0] [57,58] (.cond (.T 59) [] (.r [.v 60 0,.N 61 60,
 .E 62 0 61,.D 63 62,.e 64 8 5,.k 65 0 64,
 .X 66 1 63 65,.n (.store 1) [.T 66,.b true]] (some []) [5,60,64,65]) [5] .skip)) [] (.s [
 .I 68 .eql 36 7,.v 67 68] [68] (.cond (.T 67) [5,36] (.g [.v 69 0,
 .a 70 92 69] [69,70]) [] (.s [.I 72 .eql 36 6,.v 71 72] [72]
 (.cond (.T 71) [36] (.s [.v 73 0,.N 74 73,.E 75 0 74,.D 76 75,
 .o 77 (.jx 1 1) [.const .U,.T 76],.w 7 77] [73] (.s [.v 78 0,.e 79 5 5,
 .k 80 0 79,.p 81 53 78 80] [5,78,79,81] (.g [.v 82 0,.w 83 7,
 .N 84 82,.E 85 0 84,.n (.store 1) [.T 85,.T 83]] [82]))) [] (.s [
 .I 87 .eql 36 5,.v 86 87] [36,87] (.cond (.T 86) [] (.s [.v 88 0,
 .N 89 88,.E 90 0 89,.D 91 90,.o 92 (.jx 1 1) [.const .U,.T 91],
 .w 8 92] [88] (.s [.v 93 0,.e 94 5 5,.k 95 0 94,
 .p 96 53 93 95] [93,94,96] (.s [.v 97 0,.N 98 97,.E 99 0 98,
 .D 100 99,.w 9 100] [97] (.s [.v 101 0,.w 102 8,.N 103 101,
 .E 104 0 103,.n (.store 1) [.T 104,.T 102]] [101] (.s [.v 105 0,.e 106 6 5,
 .k 107 0 106,.p 108 53 105 107] [5,105,106,108] (.s [
 .m 10 (.i 0)] [] (.block 5 (.loop Lb)))))))) [5] .skip))))))))))))))))) (.g [.v 15 4,
 .I 16 .add 15 1,.v 4 16] [15,16])))
def s53:aH:={ eM:=53,mode:=.zg,aF:=2,aP:=1,dj:=[],results:=[],body:=
 (.s [.m 4 (.i 0)] [] (.block 0 (.loop pZ))) }
def E6:aH:={ eM:=54,mode:=.zg,aF:=2,aP:=1,dj:=[],results:=[],body:=
 (.s [.B 3 0 9 1] [] (.s [.e 14 0 3,.k 15 0 14] [14] (.block 0
 (.seq (.s [.I 17 .eql 15 2,.v 16 17] [17] (.cond (.t 16) [] .skip [16] (.g [
 .I 18 .eql 15 3,.v 16 18] [18]))) (.cond (.T 16) [15] (.s [.v 19 0,
 .e 20 4 3,.k 21 0 20,.Z 22 11 21 0,.L 23 11 22,
 .p 24 93 19 23,.v 4 24] [19,20,24] (.s [.e 25 8 3,.k 26 0 25,
 .I 27 .lss 26 0] [25,26] (.cond (.T 27) [] (.g [.v 28 0,.v 29 4,
 .e 30 8 3,.k 31 0 30,.o 32 (.rU .sub) [.const (.i (-1)),.t 31],
 .o 33 (.build [.i 0,.i 0,.i 0,.i 0,.i 0,.U] [(0,1),(1,1),(4,1)]) [.i 20,.t 29,.t 32],
 .p 34 55 28 33] [0,3,4,28,29,30,31,32,34]) [] (.g [.v 35 0,.e 36 8 3,
 .k 37 0 36,.v 38 4,
 .o 39 (.build [.i 0,.i 0,.i 0,.i 0,.i 0,.U] [(0,1),(1,1),(2,1)]) [.i 3,.t 37,.t 38],
 .p 40 55 35 39] [0,3,4,35,36,37,38,40])))) [] (.s [.I 42 .eql 15 4,
 .v 41 42] [42] (.cond (.T 41) [15] (.s [.v 43 0,.e 44 4 3,.k 45 0 44,
 .Z 46 11 45 0,.E 47 5 46,.D 48 47,.p 49 94 43 48,
 .w 5 49] [43,44] (.s [.v 50 0,.e 51 4 3,.k 52 0 51,
 .Z 53 11 52 1,.L 54 11 53,.p 55 93 50 54,.v 6 55] [50,51,55]
 (.s [.e 56 4 3,.k 57 0 56,.Z 58 11 57 0,
 .E 59 0 58,.D 60 59,.I 61 .eql 60 5] [56,60] (.cond (.T 61) [] (.r [
 .v 62 0,.w 63 5,.Z 64 1 63 0,.D 65 64,.v 66 6,
 .e 67 4 3,.k 68 0 67,.Z 69 11 68 0,.E 70 10 69,
 .D 71 70,
 .o 72 (.build [.i 0,.i 0,.i 0,.i 0,.i 0,.U] [(0,1),(1,1),(2,1),(3,1)]) [.i 7,.t 65,.t 66,.t 71],
 .p 73 55 62 72] (some []) [0,3,6,62,65,66,67,71,73]) [3] (.r [.v 74 0,.v 75 5,
 .Z 76 1 75 0,.D 77 76,.v 78 5,.Z 79 1 78 1,
 .D 80 79,.v 81 6,
 .o 82 (.build [.i 0,.i 0,.i 0,.i 0,.i 0,.U] [(0,1),(1,1),(2,1),(3,1)]) [.i 9,.t 77,.t 80,.t 81],
 .p 83 55 74 82] (some []) [0,5,6,74,77,80,81,83]))))) [] (.s [.I 85 .eql 15 5,
 .v 84 85] [85] (.cond (.T 84) [15] (.s [.v 86 0,.e 87 4 3,.k 88 0 87,
 .Z 89 11 88 0,.L 90 11 89,.p 91 93 86 90,.v 7 91] [86,87,91]
 (.s [.v 92 0,.v 93 7,
 .o 94 (.build [.i 0,.i 0,.i 0,.i 0,.i 0,.U] [(0,1),(1,1)]) [.i 17,.t 93],
 .p 95 55 92 94,.v 8 95] [7,92,93,95] (.s [.v 96 0,.N 97 96,
 .E 98 6 97,.E 99 6 98,.D 100 99,.v 101 8,.v 102 8,
 .I 103 .add 102 1,.X 104 6 100 101,.E 105 4 104,
 .R 1 105 103] [96,101,102,103] (.s [.v 106 0,.e 107 5 3,
 .k 108 0 107,.p 109 28 106 108] [106,107,109] (.s [.v 110 0,
 .o 111 (.build [.i 0,.i 0,.i 0,.i 0,.i 0,.U] [(0,1)]) [.i 16],.p 112 55 110 111,
 .v 9 112] [110,112] (.s [.v 113 0,.N 114 113,.E 115 6 114,
 .E 116 6 115,.D 117 116,.v 118 8,.v 119 9,
 .I 120 .add 119 1,.X 121 6 117 118,.E 122 3 121,
 .R 1 122 120] [8,113,118,119,120] (.s [.v 123 0,.e 124 6 3,
 .k 125 0 124,.p 126 28 123 125] [3,123,124,126] (.r [.v 127 0,.N 128 127,
 .E 129 6 128,.E 130 6 129,.D 131 130,.v 132 9,.v 133 0,
 .N 134 133,.E 135 6 134,.E 136 6 135,.D 137 136,.H 138 137,
 .X 139 6 131 132,.E 140 4 139,.R 1 140 138] (some []) [0,9,127,132,133,138])))))))) [] (.s [.I 142 .eql 15 6,.v 141 142] [142] (.cond (.T 141) [15] (.s [.v 143 0,
 .N 144 143,.E 145 6 144,.E 146 6 145,.D 147 146,.H 148 147,
 .v 10 148] [143,148] (.s [.v 149 0,.e 150 4 3,.k 151 0 150,
 .Z 152 11 151 0,.L 153 11 152,.p 154 93 149 153,
 .v 11 154] [149,150,154] (.s [.v 155 0,.v 156 11,
 .o 157 (.build [.i 0,.i 0,.i 0,.i 0,.i 0,.U] [(0,1),(1,1)]) [.i 17,.t 156],
 .p 158 55 155 157,.v 12 158] [11,155,156,158] (.s [.v 159 0,.N 160 159,
 .E 161 6 160,.E 162 6 161,.D 163 162,.v 164 12,.v 165 12,
 .I 166 .add 165 1,.X 167 6 163 164,.E 168 4 167,
 .R 1 168 166] [159,164,165,166] (.s [.v 169 0,.e 170 5 3,
 .k 171 0 170,.p 172 28 169 171] [3,169,170,172] (.s [.v 173 0,.v 174 10,
 .o 175 (.build [.i 0,.i 0,.i 0,.i 0,.i 0,.U] [(0,1),(4,1)]) [.i 16,.t 174],
 .p 176 55 173 175] [10,173,174,176] (.r [.v 177 0,.N 178 177,.E 179 6 178,
 .E 180 6 179,.D 181 180,.v 182 12,.v 183 0,.N 184 183,
 .E 185 6 184,.E 186 6 185,.D 187 186,.H 188 187,
 .X 189 6 181 182,.E 190 3 189,.R 1 190 188] (some []) [0,12,177,182,183,188]))))))) [] (.s [.I 192 .eql 15 7,.v 191 192] [192] (.cond (.T 191) [15] (.s [
 .o 13 .move [.const (.i (-1))]] [] (.seq (.s [.e 193 4 3,.k 194 0 193,
 .H 195 194,.I 196 .gtr 195 0] [193,195] (.cond (.T 196) [13] (.g [.v 197 0,
 .e 198 4 3,.k 199 0 198,.Z 200 11 199 0,
 .L 201 11 200,.p 202 93 197 201,.v 13 202] [3,197,198,202]) [3] .skip)) (.g [
 .v 203 0,.v 204 13,
 .o 205 (.build [.i 0,.i 0,.i 0,.i 0,.i 0,.U] [(0,1),(1,1)]) [.i 18,.t 204],
 .p 206 55 203 205] [0,13,203,204,206]))) [] (.s [.I 208 .eql 15 8,
 .v 207 208] [208] (.cond (.T 207) [15] (.g [.v 209 0,.v 210 0,.e 211 4 3,
 .k 212 0 211,.Z 213 11 212 0,.L 214 11 213,
 .p 215 93 210 214,
 .o 216 (.build [.i 0,.i 0,.i 0,.i 0,.i 0,.U] [(0,1),(1,1)]) [.i 15,.t 215],
 .p 217 55 209 216] [0,3,209,210,211,215,217]) [] (.s [.I 219 .eql 15 9,
 .v 218 219] [15,219] (.cond (.T 218) [] (.g [.v 220 0,.e 221 4 3,
 .k 222 0 221,.Z 223 11 222 0,.L 224 11 223,
 .p 225 93 220 224] [0,3,220,221,225]) [0,3] .skip))))))))))))))))) }
def s55:aH:={ eM:=55,mode:=.zg,aF:=2,aP:=1,dj:=[],results:=[.tmp 4 false],body:=
 (.s [.B 3 0 6 1,.m 4 (.i 0)] [4] (.seq (.r [.v 5 0,.v 6 0,
 .N 7 6,.E 8 6 7,.E 9 6 8,.D 10 9,.A 11 0 6 3,
 .o 12 (.lit 6 1 [.i 0,.i 0,.i 0,.i 0,.i 0,.U] [0]) [.T 11],.o 13 (.jx 6 64) [.T 10,.T 12],
 .N 14 5,.E 15 6 14,.E 16 6 15,.n (.store 1) [.T 16,.T 13]] (some []) [3,5,6]) (.s [
 .v 17 0,.N 18 17,.E 19 6 18,.E 20 6 19,.D 21 20,
 .H 22 21,.I 23 .sub 22 1,.v 4 23] [0,17,22,23] .ret))) }
def RA:bw:=
 (.seq (.s [.v 48 5,.e 49 5 2,.k 50 0 49,.H 51 50,
 .J 52 .lss 48 51] [48,49,51] (.w 52 [2,3,5] 0)) (.seq (.block 1 (.seq (.r [.e 55 5 2,
 .k 56 0 55,.v 57 5,.X 58 1 56 57,.D 59 58,
 .e 60 5 3,.k 61 1 60,.v 62 5,.X 63 1 61 62,
 .D 64 63,.J 65 .neq 59 64] (some []) [55,57,59,60,62,64]) (.cond (.T 65) [2,3,5] (.s [
 .m 4 (.b false)] [] .ret) [] .skip))) (.g [.v 53 5,.I 54 .add 53 1,
 .v 5 54] [53,54])))
def s56:aH:={ eM:=56,mode:=.pure,aF:=2,aP:=2,dj:=[],results:=[.tmp 4 false],body:=
 (.s [.B 2 0 6 0,.B 3 1 6 1,.m 4 (.b false)] [4] (.seq (.s [
 .e 6 0 2,.k 7 0 6,.e 8 0 3,.k 9 1 8,
 .J 10 .neq 7 9,.v 11 10,.ez 12 1 2 11,.kz 13 0 12 11,.ez 14 1 3 11,
 .kz 15 1 14 11,.Jz 16 .neq 13 15 11,.P 17 11 16,.v 18 17,
 .ez 19 2 2 18,.kz 20 0 19 18,.ez 21 2 3 18,.kz 22 1 21 18,
 .Jz 23 .neq 20 22 18,.P 24 18 23,.v 25 24,.ez 26 3 2 25,
 .kz 27 0 26 25,.ez 28 3 3 25,.kz 29 1 28 25,.Jz 30 .neq 27 29 25,
 .P 31 25 30,.v 32 31,.ez 33 4 2 32,.kz 34 0 33 32,
 .ez 35 4 3 32,.kz 36 1 35 32,.Jz 37 .neq 34 36 32,.P 38 32 37,
 .v 39 38,.ez 40 5 2 39,.kz 41 0 40 39,.Hz 42 41 39,.ez 43 5 3 39,
 .kz 44 1 43 39,.Hz 45 44 39,.Jz 46 .neq 42 45 39,
 .P 47 39 46] [6,7,8,9,10,11,12,13,14,15,16,17,18,19,20,21,22,23,24,25,26,27,28,29,30,31,32,33,34,35,36,37,38,39,40,41,42,43,44,45,46]
 (.cond (.T 47) [2,3] (.s [.m 4 (.b false)] [] .ret) [] .skip)) (.seq (.s [
 .m 5 (.i 0)] [] (.block 0 (.loop RA))) (.s [.m 4 (.b true)] [] .ret)))) }
def Zn:aH:={ eM:=66,mode:=.pure,aF:=1,aP:=0,dj:=[],results:=[.tmp 2 false],body:=
 (.s [.m 2 (.b false)] [2] (.s [.v 3 0,.o 4 (.rU .geq) [.t 3,.const (.int .u8 97)],
 .v 5 4,.vy 6 0 5,.y 7 (.rU .leq) [.t 6,.const (.int .u8 122)] 5,.O 8 5 7,.v 9 8,
 .vz 10 0 9,.z 11 (.rU .geq) [.t 10,.const (.int .u8 65)] 9,.vz 12 11 9,.vy 13 0 12,
 .y 14 (.rU .leq) [.t 13,.const (.int .u8 90)] 12,.z 15 .pick [.t 12,.t 14,.b false] 9,.P 16 9 15,
 .v 2 16] [0,3,4,5,6,7,8,9,10,11,12,13,14,15,16] .ret)) }
def RB:bw:=
 (.seq (.s [.v 8 1,.v 9 7,.J 10 .add 8 9,.v 11 0,.o 12 (.len .str) [.t 11],
 .J 13 .lss 10 12,.v 14 13,.vy 15 0 14,.vy 16 1 14,.vy 17 7 14,.Jy 18 .add 16 17 14,
 .y 19 .index [.t 15,.t 18] 14,.y 20 (.call 70) [.t 19] 14,.vy 21 20 14,.vz 22 2 21,.z 23 (.un .not) [.t 22] 21,
 .vz 24 23 21,.vy 25 0 24,.vy 26 1 24,.vy 27 7 24,.Jy 28 .add 26 27 24,
 .y 29 .index [.t 25,.t 28] 24,.y 30 (.call 66) [.t 29] 24,.z 31 .pick [.t 24,.t 30,.b false] 21,
 .y 32 .pick [.t 21,.b true,.t 31] 14,
 .O 33 14 32] [8,9,10,11,12,13,14,15,16,17,18,19,20,21,22,23,24,25,26,27,28,29,30,31,32] (.w 33 [0,1,2] 0)) (.block 1 (.g [.v 34 7,.I 35 .add 34 1,.v 7 35] [34,35])))
def s67:aH:={ eM:=67,mode:=.pure,aF:=3,aP:=0,dj:=[],results:=[.tmp 6 false],body:=
 (.s [.m 6 (.i 0)] [6] (.s [.m 7 (.i 0)] [] (.seq (.block 0 (.loop RB))
 (.s [.v 36 7,.v 6 36] [7,36] .ret)))) }
def RC:bw:=
 (.seq (.s [.v 6 4,.v 7 3,.H 8 7,.J 9 .lss 6 8] [6,8] (.w 9 [0,3,4] 0)) (.seq (.block 1 (.s [.v 12 3,.v 13 4,.X 14 1 12 13,.D 15 14,
 .v 16 0,.J 17 .eql 15 16] [13,15,16] (.cond (.T 17) [0,3,4] (.s [.m 2 (.b true)] []
 .ret) [] .skip))) (.g [.v 10 4,.I 11 .add 10 1,.v 4 11] [10,11])))
def s68:aH:={ eM:=68,mode:=.pure,aF:=1,aP:=0,dj:=[],results:=[.tmp 2 false],body:=
 (.s [.m 2 (.b false)] [2] (.s [.c 5 95 [],.w 3 5] [] (.seq (.s [
 .m 4 (.i 0)] [] (.block 0 (.loop RC))) (.s [.m 2 (.b false)] [] .ret)))) }
def RD:bw:=
 (.seq (.s [.v 22 3,.v 23 0,.o 24 (.len .str) [.t 23],.J 25 .lss 22 24] [22,23,24] (.w 25 [0,3] 0)) (.seq (.block 1 (.s [.v 28 0,.v 29 3,.o 30 .index [.t 28,.t 29],.a 31 66 30,
 .o 32 (.un .not) [.t 31],.v 33 32,.vy 34 0 33,.vy 35 3 33,.y 36 .index [.t 34,.t 35] 33,.y 37 (.call 70) [.t 36] 33,
 .y 38 (.un .not) [.t 37] 33,.O 39 33 38] [28,29,30,31,32,33,34,35,36,37,38] (.cond (.T 39) [0,3] (.s [
 .m 2 (.b false)] [] .ret) [] .skip))) (.g [.v 26 3,.I 27 .add 26 1,
 .v 3 27] [26,27])))
def Zo:aH:={ eM:=69,mode:=.pure,aF:=1,aP:=0,dj:=[],results:=[.tmp 2 false],body:=
 (.s [.m 2 (.b false)] [2] (.seq (.s [.v 4 0,.o 5 (.len .str) [.t 4],
 .I 6 .lss 5 1,.v 7 6,.vz 8 0 7,.z 9 (.len .str) [.t 8] 7,
 .Iz 10 .gtr 9 8 7,.P 11 7 10,.v 12 11,.vz 13 0 12,
 .z 14 .index [.t 13,.i 0] 12,.z 15 (.call 66) [.t 14] 12,.z 16 (.un .not) [.t 15] 12,.P 17 12 16,
 .v 18 17,.vz 19 0 18,.z 20 (.call 68) [.t 19] 18,
 .P 21 18 20] [4,5,6,7,8,9,10,11,12,13,14,15,16,17,18,19,20] (.cond (.T 21) [0] (.s [
 .m 2 (.b false)] [] .ret) [] .skip)) (.seq (.s [.m 3 (.i 0)] [] (.block 0 (.loop RD)))
 (.s [.m 2 (.b true)] [] .ret)))) }
def s70:aH:={ eM:=70,mode:=.pure,aF:=1,aP:=0,dj:=[],results:=[.tmp 2 false],body:=
 (.s [.m 2 (.b false)] [2] (.s [.v 3 0,.o 4 (.rU .geq) [.t 3,.const (.int .u8 48)],
 .v 5 4,.vy 6 0 5,.y 7 (.rU .leq) [.t 6,.const (.int .u8 57)] 5,.O 8 5 7,
 .v 2 8] [0,3,4,5,6,7,8] .ret)) }
def RG:bw:=
 (.seq (.s [.v 7 5,.v 8 0,.o 9 (.len .str) [.t 8],.J 10 .lss 7 9] [7,8,9] (.w 10 [0,5] 0)) (.seq (.block 1 (.s [.v 13 0,.v 14 5,.o 15 .index [.t 13,.t 14],
 .o 16 (.rU .sub) [.t 15,.const (.int .u8 48)],.o 17 (.conv .i64) [.t 16],.v 6 17] [13,14,15,16,17] (.seq (.s [
 .v 18 4,.v 19 6,.o 20 (.rU .sub) [.i 9223372036854775807,.t 19],.I 21 .quo 20 10,
 .J 22 .gtr 18 21] [18,19,20,21] (.cond (.T 22) [0,4,5,6] (.s [.m 2 (.i 0),
 .m 3 (.b false)] [] .ret) [] .skip)) (.g [.v 23 4,.o 24 (.rU .mul) [.i 10,.t 23],
 .v 25 6,.J 26 .add 24 25,.v 4 26] [6,23,24,25,26])))) (.g [.v 11 5,
 .I 12 .add 11 1,.v 5 12] [11,12])))
def s71:aH:={ eM:=71,mode:=.pure,aF:=1,aP:=0,dj:=[],results:=[.tmp 2 false,.tmp 3 false],body:=
 (.s [.m 2 (.i 0),.m 3 (.b false)] [2,3] (.s [
 .m 4 (.i 0)] [] (.seq (.s [.m 5 (.i 0)] [] (.block 0 (.loop RG))) (.s [
 .v 27 4,.v 2 27,.m 3 (.b true)] [4,27] .ret)))) }
def RH:bw:=
 (.seq (.s [.v 10 6,.v 11 5,.H 12 11,.J 13 .lss 10 12] [10,12] (.w 13 [5,6] 0)) (.seq (.block 1 (.seq (.r [.v 16 0,.o 17 (.len .str) [.t 16],.v 18 1,.J 19 .sub 17 18,
 .I 20 .geq 19 2,.v 21 20,.vy 22 0 21,.vy 23 1 21,.vy 24 1 21,
 .Iy 25 .add 24 2 21,.y 26 (.slice true true true false 0) [.t 22,.t 23,.t 25] 21,.vy 27 5 21,.vy 28 6 21,
 .y 29 (.indexAddr 1) [.T 27,.t 28] 21,.Dy 30 29 21,.Jy 31 .eql 26 30 21,
 .O 32 21 31] (some []) [16,17,18,19,20,21,22,23,24,25,26,27,28,29,30,31]) (.cond (.T 32) [0,1] (.s [
 .w 33 5,.v 34 6,.X 35 1 33 34,.D 36 35,.v 4 36] [6,34,36] .ret) []
 .skip))) (.g [.v 14 6,.I 15 .add 14 1,.v 6 15] [14,15])))
def RI:bw:=
 (.seq (.s [.v 37 8,.v 38 7,.o 39 (.len .str) [.t 38],.J 40 .lss 37 39] [37,38,39] (.w 40 [0,1,7,8] 2)) (.seq (.block 3 (.seq (.r [.v 43 0,.v 44 1,.o 45 .index [.t 43,.t 44],.v 46 7,
 .v 47 8,.o 48 .index [.t 46,.t 47],.J 49 .eql 45 48] (some []) [43,44,45,46,47,48]) (.cond (.T 49) [0,1] (.s [
 .v 50 7,.v 51 8,.v 52 8,.I 53 .add 52 1,
 .o 54 (.slice true true true false 0) [.t 50,.t 51,.t 53],.v 4 54] [7,8,50,51,52,53,54] .ret) [] .skip))) (.g [.v 41 8,
 .I 42 .add 41 1,.v 8 42] [41,42])))
def s72:aH:={ eM:=72,mode:=.pure,aF:=2,aP:=0,dj:=[],results:=[.tmp 4 false],body:=
 (.s [.o 4 .move [.const (.str [])]] [4] (.s [
 .o 9 (.lit 1 5 [.str []] [0,1,2,3,4]) [.const (.str [60,61]),.const (.str [61,61]),.const (.str [33,61]),.const (.str [38,38]),.const (.str [124,124])],
 .w 5 9] [] (.seq (.s [.m 6 (.i 0)] [] (.block 0 (.loop RH))) (.s [
 .o 7 .move [.const (.str [123,125,40,41,91,93,59,58,44,46,61,43,45,42,47,37,60,33])]] [] (.seq (.s [
 .m 8 (.i 0)] [] (.block 2 (.loop RI))) (.s [.o 4 .move [.const (.str [])]] [] .ret)))))) }
def s73:aH:={ eM:=73,mode:=.kg,aF:=2,aP:=0,dj:=[],results:=[],body:=
 (.seq (.s [.v 4 0,.v 5 1,.q 6 14 4 5,.v 7 6,.vy 8 0 7,.y 9 .nilCheck [.t 8] 7,
 .Ey 10 2 9 7,.Dy 11 10 7,.Iy 12 .geq 11 50 7,
 .O 13 7 12] [4,5,6,7,8,9,10,11,12] (.cond (.T 13) [1] (.s [.v 14 0,
 .c 15 15 [.t 14,.i 4]] [0,14,15] .ret) [] .skip)) (.s [.v 16 0,.v 17 1,
 .q 18 18 16 17] [1,16,17,18] (.g [.v 19 0,.N 20 19,.E 21 2 20,
 .D 22 21,.I 23 .add 22 1,.N 24 19,.E 25 2 24,
 .R 1 25 23] [0,19,22,23]))) }
def RJ:aH:={ eM:=74,mode:=.kg,aF:=1,aP:=3,dj:=[],results:=[.box 2 0 9 true],body:=
 (.s [.o 2 (.bT 0 [.i 0,.str [],.str [],.i 0,.U,.U,.U,.i 0,.i 0]) []] [] (.s [
 .v 5 0,.a 6 13 5,.o 3 (.bT 1 [.i 0,.str [],.i 0,.i 0]) [],.S 1 4 3 6] [5,6] (.s [.e 7 3 3,.k 8 1 7,
 .o 9 (.build [.i 0,.str [],.str [],.i 0,.U,.U,.U,.i 0,.i 0] [(7,1)]) [.t 8],
 .o 4 (.bT 2 [.i 0,.str [],.str [],.i 0,.U,.U,.U,.i 0,.i 0]) [],.Q 2 9 4 9] [7,8] (.seq
 (.block 0 (.seq (.s [.v 14 0,.c 15 14 [.t 14,.const (.str [118,97,114])],.v 13 15] [14,15] (.cond (.t 13) []
 .skip [13] (.g [.v 16 0,.c 17 14 [.t 16,.const (.str [108,101,116])],.v 13 17] [16,17]))) (.cond (.T 13) [] (.s [.v 18 0,.N 19 18,.E 20 1 19,.D 21 20,
 .I 22 .add 21 1,.N 23 18,.E 24 1 23,.R 1 24 22] [18,21,22] (.s [.e 25 0 4,.n (.jH 2 1) [.t 25,.i 1]] [25] (.s [.v 26 0,
 .a 27 38 26,.e 28 1 4,.S 2 1 28 27] [26,27,28] (.s [.v 29 0,
 .c 30 18 [.t 29,.const (.str [58])]] [29,30] (.s [.v 31 0,.a 32 39 31,.e 33 2 4,
 .S 2 2 33 32] [31,32,33] (.seq (.s [.e 34 1 3,.k 35 1 34,
 .o 36 (.rU .eql) [.t 35,.const (.str [108,101,116])]] [3,34,35] (.cond (.T 36) [] (.s [.e 37 0 4,
 .n (.jH 2 1) [.t 37,.i 2]] [37] (.s [.v 38 0,.c 39 18 [.t 38,.const (.str [61])]] [38,39]
 (.g [.v 40 0,.c 41 96 [.t 40,.i 0],
 .o 42 (.lit 11 1 [.i 0,.i 0,.str [],.str [],.i 0,.U,.i 0,.i 0,.i 0,.i 0,.i 0] [0]) [.T 41],
 .e 43 4 4,.Q 2 1 43 42] [40,43]))) [] .skip)) (.g [.v 44 0,
 .c 45 18 [.t 44,.const (.str [59])]] [0,44,45]))))))) [3] (.s [.v 47 0,.c 48 14 [.t 47,.const (.str [105,102])],
 .v 46 48] [47,48] (.cond (.T 46) [] (.s [.v 49 0,.N 50 49,.E 51 1 50,
 .D 52 51,.I 53 .add 52 1,.N 54 49,.E 55 1 54,
 .R 1 55 53] [49,52,53] (.s [.e 56 0 4,.n (.jH 2 1) [.t 56,.i 5]] [56] (.s [.v 57 0,.c 58 96 [.t 57,.i 0],
 .o 59 (.lit 11 1 [.i 0,.i 0,.str [],.str [],.i 0,.U,.i 0,.i 0,.i 0,.i 0,.i 0] [0]) [.T 58],
 .e 60 4 4,.Q 2 1 60 59] [57,60] (.s [.v 61 0,.a 62 40 61,
 .e 63 5 4,.Q 2 1 63 62] [61,63] (.s [.v 64 0,
 .c 65 14 [.t 64,.const (.str [101,108,115,101])]] [64] (.cond (.T 65) [] (.s [.v 66 0,.N 67 66,
 .E 68 1 67,.D 69 68,.I 70 .add 69 1,.N 71 66,
 .E 72 1 71,.R 1 72 70] [66,69,70] (.g [.v 73 0,.a 74 40 73,
 .e 75 6 4,.Q 2 1 75 74] [0,73,75])) [0] .skip)))))) [] (.s [.v 77 0,
 .c 78 14 [.t 77,.const (.str [119,104,105,108,101])],.v 76 78] [77,78] (.cond (.T 76) [] (.s [.v 79 0,
 .N 80 79,.E 81 1 80,.D 82 81,.I 83 .add 82 1,
 .N 84 79,.E 85 1 84,.R 1 85 83] [79,82,83] (.s [.e 86 0 4,
 .n (.jH 2 1) [.t 86,.i 6]] [86] (.s [.v 87 0,.c 88 96 [.t 87,.i 0],
 .o 89 (.lit 11 1 [.i 0,.i 0,.str [],.str [],.i 0,.U,.i 0,.i 0,.i 0,.i 0,.i 0] [0]) [.T 88],
 .e 90 4 4,.Q 2 1 90 89] [87,90] (.g [.v 91 0,.a 92 40 91,
 .e 93 5 4,.Q 2 1 93 92] [0,91,93])))) [] (.s [.v 95 0,
 .c 96 14 [.t 95,.const (.str [114,101,116,117,114,110])],.v 94 96] [95,96] (.cond (.T 94) [] (.s [.v 97 0,
 .N 98 97,.E 99 1 98,.D 100 99,.I 101 .add 100 1,
 .N 102 97,.E 103 1 102,.R 1 103 101] [97,100,101] (.s [.e 104 0 4,
 .n (.jH 2 1) [.t 104,.i 7]] [104] (.seq (.s [.v 105 0,.c 106 14 [.t 105,.const (.str [59])],
 .o 107 (.un .not) [.t 106]] [105,106] (.cond (.T 107) [] (.g [.v 108 0,.c 109 96 [.t 108,.i 0],
 .o 110 (.lit 11 1 [.i 0,.i 0,.str [],.str [],.i 0,.U,.i 0,.i 0,.i 0,.i 0,.i 0] [0]) [.T 109],
 .e 111 4 4,.Q 2 1 111 110] [108,111]) [] .skip)) (.g [.v 112 0,
 .c 113 18 [.t 112,.const (.str [59])]] [0,112,113])))) [] (.s [.v 115 0,
 .c 116 14 [.t 115,.const (.str [112,114,105,110,116])],.v 114 116] [115,116] (.cond (.T 114) [] (.s [
 .v 117 0,.N 118 117,.E 119 1 118,.D 120 119,
 .I 121 .add 120 1,.N 122 117,.E 123 1 122,
 .R 1 123 121] [117,120,121] (.s [.e 124 0 4,.n (.jH 2 1) [.t 124,.i 8]] [124]
 (.s [.v 125 0,.c 126 96 [.t 125,.i 0],
 .o 127 (.lit 11 1 [.i 0,.i 0,.str [],.str [],.i 0,.U,.i 0,.i 0,.i 0,.i 0,.i 0] [0]) [.T 126],
 .e 128 4 4,.Q 2 1 128 127] [125,128] (.g [.v 129 0,
 .c 130 18 [.t 129,.const (.str [59])]] [0,129,130])))) [] (.s [.v 10 0,.A 11 2 9 4,
 .p 12 97 10 11,.Q 0 9 2 12] [0,4,10] .ret)))))))))))) (.s [.A 131 2 9 4,
 .Q 0 9 2 131] [4] .ret))))) }
def s75:aH:={ eM:=75,mode:=.kg,aF:=2,aP:=0,dj:=[],results:=[],body:=
 (.s [.v 4 0,.v 5 1,.q 6 18 4 5] [1,4,5,6] (.g [.v 7 0,.N 8 7,
 .E 9 2 8,.D 10 9,.I 11 .sub 10 1,.N 12 7,
 .E 13 2 12,.R 1 13 11] [0,7,10,11])) }
def RK:bw:=
 (.s [.J 13 .lss 12 11] [] (.seq (.w 13 [10,11,12] 0) (.seq (.block 1 (.s [
 .Y 14 3 10 12,.L 15 3 14,.o 6 (.bT 0 [.str [],.U,.i 0]) [],
 .Q 0 3 6 15] [] (.seq (.seq (.r [.v 16 0,.N 17 16,.E 18 0 17,
 .D 19 18,.e 20 0 6,.k 21 0 20,
 .c 22 98 [.T 19,.t 21]] (some []) [16,20,21]) (.cond (.T 22) [] (.g [.v 23 0,.e 24 2 6,
 .k 25 0 24,.q 26 81 23 25] [23,24,25,26]) [] .skip)) (.r [.v 27 0,.v 28 0,
 .N 29 28,.E 30 0 29,.o 31 (.load false 1 true) [.T 30],.e 32 0 6,
 .k 33 0 32,.o 34 (.lit 1 1 [.str []] [0]) [.t 33],.o 35 (.append 1 16) [.T 31,.T 34],.N 36 27,
 .E 37 0 36,.n (.store 1) [.T 37,.T 35]] (some []) [6,27,28,32,33])))) (.g [.I 38 .add 12 1,
 .v 12 38] [38]))))
def RL:bw:=
 (.s [.J 42 .lss 41 40] [] (.seq (.w 42 [0,39,40,41] 2) (.seq (.block 3 (.s [
 .Y 43 3 39 41,.L 44 3 43,.o 9 (.bT 1 [.str [],.U,.i 0]) [],
 .Q 1 3 9 44] [] (.r [.w 45 7,.e 46 0 9,.k 47 1 46,
 .v 48 0,.e 49 1 9,.k 50 1 49,.p 51 77 48 50,
 .o 52 (.build [.str [],.U] [(0,1),(1,1)]) [.t 47,.T 51],.o 53 (.lit 2 1 [.str [],.U] [0]) [.T 52],.o 54 (.append 2 40) [.T 45,.T 53],
 .w 7 54] (some []) [9,46,47,48,49]))) (.g [.I 55 .add 41 1,.v 41 55] [55]))))
def s76:aH:={ eM:=76,mode:=.kg,aF:=2,aP:=2,dj:=[],results:=[.tmp 4 true],body:=
 (.s [.o 4 .move [.const .U]] [4] (.seq (.s [.v 10 1,.h 11 10,
 .m 12 (.i 0)] [] (.block 0 (.loop RK))) (.s [.o 7 .move [.const .U]] [] (.seq (.s [
 .w 39 1,.h 40 39,.m 41 (.i 0)] [] (.block 2 (.loop RL))) (.s [.w 56 7,
 .w 4 56] [] .ret))))) }
def RM:bw:=
 (.s [.J 15 .lss 14 13] [] (.seq (.w 15 [0,6,12,13,14] 0) (.seq (.block 1 (.s [
 .Y 16 4 12 14,.L 17 4 16,.o 8 (.bT 0 [.str [],.str [],.i 0,.i 0]) [],
 .S 0 4 8 17] [17] (.seq (.s [.v 19 6,.e 20 0 8,.k 21 0 20,
 .o 22 (.lookup .str (.agg []) true) [.t 19,.t 21],.w 18 22,.x 23 0 18,.u 24 1 18,.G 9 1 [],
 .S 1 0 9 23,.v 10 24] [9,19,20,21,23,24] (.s [.v 25 10] [10] (.cond (.T 25) [] (.g [
 .v 26 0,.e 27 3 8,.k 28 0 27,.q 29 81 26 28] [26,27,28,29]) [] .skip))) (.s [.v 30 6,.e 31 0 8,.k 32 0 31,.o 33 (.build [] []) [],
 .n (.mapUpdate .str) [.t 30,.t 32,.t 33]] [30,31,32,33] (.r [.w 34 5,.e 35 0 8,
 .k 36 0 35,.v 37 0,.e 38 1 8,.A 39 0 2 38,.e 40 3 8,
 .k 41 0 40,.c 42 99 [.t 37,.t 39,.t 41],
 .o 43 (.build [.str [],.i 0,.i 0,.i 0] [(0,1),(1,3)]) [.t 36,.t 42],
 .o 44 (.lit 4 1 [.str [],.i 0,.i 0,.i 0] [0]) [.t 43],.o 45 (.append 4 40) [.T 34,.T 44],
 .w 5 45] (some []) [8,35,36,37,38,39,40,41,42,43]))))) (.g [.I 46 .add 14 1,
 .v 14 46] [46]))))
def s77:aH:={ eM:=77,mode:=.kg,aF:=2,aP:=2,dj:=[],results:=[.tmp 4 true],body:=
 (.s [.o 4 .move [.const .U]] [4] (.s [.o 5 .move [.const .U]] [] (.s [.o 11 .makeMap [],
 .v 6 11] [11] (.seq (.s [.w 12 1,.h 13 12,.m 14 (.i 0)] [] (.block 0
 (.loop RM))) (.s [.w 47 5,.w 4 47] [] .ret))))) }
def RN:bw:=
 (.s [.J 16 .lss 15 14] [] (.seq (.w 16 [0,6,13,14,15] 0) (.seq (.block 1 (.s [
 .Y 17 7 13 15,.L 18 7 17,
 .o 8 (.bT 0 [.str [],.U,.bool false,.str [],.i 0,.U,.i 0]) [],.Q 0 7 8 18] [] (.seq (.s [
 .v 20 6,.e 21 0 8,.k 22 0 21,.o 23 (.lookup .str (.agg []) true) [.t 20,.t 22],
 .w 19 23,.x 24 0 19,.u 25 1 19,.G 9 1 [],.S 1 0 9 24,
 .v 10 25] [9,20,21,22,24,25] (.s [.v 26 10] [10] (.cond (.T 26) [] (.g [.v 27 0,
 .e 28 6 8,.k 29 0 28,.q 30 81 27 29] [27,28,29,30]) [] .skip))) (.s [
 .v 31 6,.e 32 0 8,.k 33 0 32,.o 34 (.build [] []) [],
 .n (.mapUpdate .str) [.t 31,.t 33,.t 34]] [31,32,33,34] (.seq (.r [.e 35 0 8,.k 36 0 35,
 .v 37 0,.e 38 1 8,.k 39 0 38,.p 40 77 37 39,.e 41 2 8,
 .k 42 0 41,
 .o 43 (.build [.str [],.U,.bool false,.i 0,.i 0,.i 0] [(0,1),(1,1),(2,1)]) [.t 36,.T 40,.t 42],
 .o 11 (.bT 2 [.str [],.U,.bool false,.i 0,.i 0,.i 0]) [],.Q 2 6 11 43] (some []) [35,36,37,38,41,42]) (.seq
 (.s [.e 44 2 8,.k 45 0 44] [44] (.cond (.T 45) [] (.g [.v 46 0,
 .e 47 3 8,.A 48 0 2 47,.e 49 6 8,.k 50 0 49,
 .c 51 99 [.t 46,.t 48,.t 50],.e 52 3 11,.S 2 3 52 51] [8,46,47,48,49,50,51,52]) [8] .skip)) (.g [
 .w 53 5,.A 54 2 6 11,.o 55 (.lit 6 1 [.str [],.U,.bool false,.i 0,.i 0,.i 0] [0]) [.T 54],
 .o 56 (.append 6 72) [.T 53,.T 55],.w 5 56] [11]))))))) (.g [.I 57 .add 15 1,
 .v 15 57] [57]))))
def s78:aH:={ eM:=78,mode:=.kg,aF:=2,aP:=3,dj:=[],results:=[.tmp 4 true],body:=
 (.s [.o 4 .move [.const .U]] [4] (.s [.o 5 .move [.const .U]] [] (.s [.o 12 .makeMap [],
 .v 6 12] [12] (.seq (.s [.w 13 1,.h 14 13,.m 15 (.i 0)] [] (.block 0
 (.loop RN))) (.s [.w 58 5,.w 4 58] [] .ret))))) }
def Lc:bw:=
 (.s [.J 9 .lss 8 7] [] (.seq (.w 9 [0,1,7,8] 0) (.seq (.block 1 (.s [.v 10 8,
 .v 5 10] [10] (.s [.v 11 1,.v 12 0,.v 13 5,.X 14 6 12 13,
 .L 15 6 14,.o 16 .qW [.t 11,.T 15]] [11,13] (.cond (.T 16) [0,1,7,8] (.s [.v 17 5,
 .v 4 17] [5,17] .ret) [5] .skip)))) (.g [.I 18 .add 8 1,.v 8 18] [18]))))
def s79:aH:={ eM:=79,mode:=.kg,aF:=2,aP:=0,dj:=[],results:=[.tmp 4 false],body:=
 (.s [.m 4 (.i 0)] [4] (.seq (.s [.v 6 0,.H 7 6,
 .m 8 (.i 0)] [] (.block 0 (.loop Lc))) (.s [.o 4 .move [.const (.i (-1))]] [] .ret))) }
def s80:aH:={ eM:=80,mode:=.pure,aF:=1,aP:=1,dj:=[],results:=[.tmp 2 false],body:=
 (.s [.B 1 0 6 0,.m 2 (.b false)] [2] (.s [.e 3 0 1,
 .k 4 0 3,.o 5 (.rU .eql) [.t 4,.const (.str [109,97,105,110])],.v 6 5,.ey 7 1 1 6,
 .ky 8 0 7 6,.Hy 9 8 6,.Iy 10 .eql 9 0 6,
 .O 11 6 10,.v 12 11,.ey 13 2 1 12,.ky 14 0 13 12,
 .y 15 (.un .not) [.t 14] 12,.O 16 12 15,.v 2 16] [1,3,4,5,6,7,8,9,10,11,12,13,14,15,16] .ret)) }
def s81:aH:={ eM:=81,mode:=.kg,aF:=2,aP:=0,dj:=[],results:=[],body:=
 (.s [.v 4 0,.N 5 4,.E 6 1 5,.E 7 0 6,.D 8 7,
 .I 9 .eql 8 0] [4,8] (.cond (.T 9) [] (.g [.v 10 0,.v 11 1,
 .o 12 (.build [.i 0,.i 0] [(0,1),(1,1)]) [.i 3,.t 11],.N 13 10,.E 14 1 13,
 .R 2 14 12] [0,1,10,11,12]) [0,1] .skip)) }
def s82:aH:={ eM:=82,mode:=.pure,aF:=1,aP:=0,dj:=[],results:=[.tmp 2 true],body:=
 (.s [.o 2 .move [.const .U]] [2] (.seq (.s [.v 3 0,.o 4 (.qj .sl false) [.T 3,.const .U]] []
 (.cond (.T 4) [0] (.s [.o 2 .move [.const .U]] [] .ret) [] .skip)) (.s [
 .o 5 (.lit 4 0 [.str [],.i 0,.i 0,.i 0] []) [],.w 6 0,.o 7 (.append 4 40) [.T 5,.T 6],.w 2 7] [] .ret))) }
def DT:bw:=
 (.s [.J 11 .lss 10 9] [] (.seq (.w 11 [0,8,9,10] 0) (.seq (.block 1 (.s [
 .Y 12 9 8 10,.L 13 9 12,
 .o 7 (.bT 0 [.i 0,.str [],.str [],.i 0,.U,.U,.U,.i 0,.i 0]) [],.Q 0 9 7 13] [] (.seq
 (.s [.v 14 0,.a 15 43 14] [14] (.cond (.T 15) [0,5,7,8,9,10] (.s [.o 4 .move [.const .U]] []
 .ret) [] .skip)) (.g [.w 16 5,.v 17 0,.A 18 0 9 7,.p 19 100 17 18,
 .o 20 (.lit 9 1 [.i 0,.str [],.str [],.i 0,.U,.U,.U,.i 0,.i 0] [0]) [.T 19],.o 21 (.append 9 136) [.T 16,.T 20],
 .w 5 21] [7,17])))) (.g [.I 22 .add 10 1,.v 10 22] [22]))))
def XG:aH:={ eM:=83,mode:=.kg,aF:=2,aP:=1,dj:=[],results:=[.tmp 4 true],body:=
 (.s [.o 4 .move [.const .U]] [4] (.s [.o 5 .move [.const .U]] [] (.seq (.s [.w 8 1,
 .h 9 8,.m 10 (.i 0)] [] (.block 0 (.loop DT))) (.s [.w 23 5,
 .w 4 23] [] .ret)))) }
def s84:aH:={ eM:=84,mode:=.zg,aF:=1,aP:=0,dj:=[],results:=[.tmp 2 true],body:=
 (.s [.o 2 .move [.const .U]] [2] (.seq (.s [.v 3 0,.o 4 (.Mg false) [.T 3,.const .U]] []
 (.cond (.T 4) [0] (.s [.o 2 .move [.const .U]] [] .ret) [] .skip)) (.s [.o 5 (.lit 1 0 [.bool false] []) [],
 .w 6 0,.o 7 (.jx 1 1) [.T 5,.T 6],.w 2 7] [] .ret))) }
def Ld:bw:=
 (.s [.J 17 .lss 16 15] [] (.seq (.w 17 [14,15,16] 0) (.seq (.block 1 (.s [
 .Y 18 11 14 16,.L 19 11 18,
 .o 8 (.bT 1 [.i 0,.i 0,.str [],.str [],.i 0,.U,.i 0,.i 0,.i 0,.i 0,.i 0]) [],
 .Q 1 11 8 19] [] (.g [.v 20 0,.A 21 1 11 8,.v 22 2,
 .c 23 101 [.t 20,.T 21,.T 22]] [8,20,23]))) (.g [.I 24 .add 16 1,.v 16 24] [24]))))
def RO:bw:=
 (.s [.J 48 .lss 47 46] [] (.seq (.w 48 [46,47] 3) (.seq (.block 4 (.s [
 .v 49 47,.v 9 49] [49] (.g [.v 50 2,.v 51 9,.X 52 1 50 51,
 .n (.store 1) [.T 52,.b true]] [9,51]))) (.g [.I 53 .add 47 1,.v 47 53] [53]))))
def RU:bw:=
 (.s [.J 76 .lss 75 74] [] (.seq (.w 76 [10,11,74,75] 5) (.seq (.block 6 (.s [
 .v 77 75,.v 12 77] [77] (.g [.v 78 2,.v 79 12,.v 80 10,.v 81 12,
 .X 82 1 80 81,.D 83 82,.v 84 83,.vy 85 11 84,.vy 86 12 84,
 .y 87 (.indexAddr 1) [.T 85,.t 86] 84,.Dy 88 87 84,.O 89 84 88,
 .X 90 1 78 79,.R 1 90 89] [12,79,81,83,84,85,86,87,88,89]))) (.g [
 .I 91 .add 75 1,.v 75 91] [91]))))
def Jp:aH:={ eM:=85,mode:=.zg,aF:=3,aP:=2,dj:=[],results:=[.tmp 6 true],body:=
 (.s [.B 4 0 9 1,.o 6 .move [.const .U]] [6] (.seq (.s [.e 13 4 4,
 .k 14 0 13,.h 15 14,.m 16 (.i 0)] [13] (.block 0 (.loop Ld))) (.seq (.s [.e 25 0 4,.k 26 0 25] [25] (.block 2 (.s [
 .I 28 .eql 26 1,.v 27 28] [28] (.cond (.T 27) [0,26] (.g [.v 29 2,
 .e 30 8 4,.k 31 0 30,.X 32 1 29 31,
 .n (.store 1) [.T 32,.b false]] [4,30,31]) [] (.seq (.s [.I 34 .eql 26 2,
 .v 33 34] [34] (.cond (.t 33) [] .skip [33] (.g [.I 35 .eql 26 3,.v 33 35] [35])))
 (.cond (.T 33) [0,26] (.s [.e 36 8 4,.k 37 0 36,
 .I 38 .geq 37 0] [36,37] (.cond (.T 38) [] (.g [.v 39 2,.e 40 8 4,
 .k 41 0 40,.X 42 1 39 41,.n (.store 1) [.T 42,.b true]] [4,40,41]) [4] .skip)) [] (.s [.I 44 .eql 26 7,.v 43 44] [44] (.cond (.T 43) [0,4,26] (.s [.v 45 2,
 .H 46 45,.m 47 (.i 0)] [] (.block 3 (.loop RO))) [] (.s [
 .I 55 .eql 26 6,.v 54 55] [55] (.cond (.T 54) [26] (.g [.v 56 0,
 .e 57 5 4,.k 58 0 57,.v 59 2,.c 60 44 [.t 56,.T 58,.T 59]] [0,4,56,57,60]) [] (.s [.I 62 .eql 26 5,.v 61 62] [26,62] (.cond (.T 61) [] (.seq (.r [.v 63 0,
 .e 64 5 4,.k 65 0 64,.v 66 2,.c 67 44 [.t 63,.T 65,.T 66],.v 68 0,
 .e 69 6 4,.k 70 0 69,.v 71 2,.c 72 44 [.t 68,.T 70,.T 71],.w 10 67,
 .w 11 72] (some []) [0,4,63,64,68,69]) (.s [.v 73 2,.H 74 73,.m 75 (.i 0)] []
 (.block 5 (.loop RU)))) [0,4] .skip)))))))))))) (.s [.w 92 2,.w 6 92] [] .ret)))) }
def HA:aH:={ eM:=86,mode:=.zg,aF:=2,aP:=1,dj:=[],results:=[],body:=
 (.s [.B 3 0 9 1] [] (.s [.e 5 0 3,.k 6 0 5] [5] (.block 0
 (.seq (.s [.I 8 .eql 6 2,.v 7 8] [8] (.cond (.t 7) [] .skip [7] (.g [
 .I 9 .eql 6 3,.v 7 9] [9]))) (.cond (.T 7) [6] (.g [.v 10 0,
 .A 11 0 9 3,.p 12 102 10 11] [0,3,10,12]) [] (.s [.I 14 .eql 6 4,
 .v 13 14] [14] (.cond (.T 13) [6] (.g [.v 15 0,.A 16 0 9 3,
 .p 17 103 15 16] [0,3,15,17]) [] (.s [.I 19 .eql 6 5,.v 18 19] [19]
 (.cond (.T 18) [6] (.g [.v 20 0,.A 21 0 9 3,.p 22 104 20 21] [0,3,20,22]) [] (.s [
 .I 24 .eql 6 6,.v 23 24] [24] (.cond (.T 23) [6] (.g [.v 25 0,
 .A 26 0 9 3,.p 27 105 25 26] [0,3,25,27]) [] (.s [.I 29 .eql 6 7,
 .v 28 29] [29] (.cond (.T 28) [6] (.s [.o 4 .move [.const (.i (-1))]] [] (.seq (.s [
 .e 30 4 3,.k 31 0 30,.H 32 31,.I 33 .gtr 32 0] [30,32]
 (.cond (.T 33) [4] (.g [.v 34 0,.e 35 4 3,.k 36 0 35,
 .Z 37 11 36 0,.L 38 11 37,.p 39 106 34 38,
 .v 4 39] [3,34,35,39]) [3] .skip)) (.g [.v 40 0,.v 41 4,
 .o 42 (.build [.i 0,.i 0,.i 0,.i 0,.i 0,.U] [(0,1),(1,1)]) [.i 18,.t 41],
 .p 43 48 40 42] [0,4,40,41,43]))) [] (.s [.I 45 .eql 6 8,.v 44 45] [45]
 (.cond (.T 44) [6] (.g [.v 46 0,.v 47 0,.e 48 4 3,.k 49 0 48,
 .Z 50 11 49 0,.L 51 11 50,.p 52 106 47 51,
 .o 53 (.build [.i 0,.i 0,.i 0,.i 0,.i 0,.U] [(0,1),(1,1)]) [.i 15,.t 52],
 .p 54 48 46 53] [0,3,46,47,48,52,54]) [] (.s [.I 56 .eql 6 9,
 .v 55 56] [6,56] (.cond (.T 55) [] (.g [.v 57 0,.e 58 4 3,.k 59 0 58,
 .Z 60 11 59 0,.L 61 11 60,.p 62 106 57 61] [0,3,57,58,62]) [0,3]
 .skip))))))))))))))))) }
def s87:aH:={ eM:=87,mode:=.pure,aF:=1,aP:=1,dj:=[],results:=[.box 2 0 2 true],body:=
 (.s [.G 2 0 [.i 0,.i 0]] [] (.s [.v 3 0,
 .o 4 (.build [.i 0,.i 0] [(0,1),(1,1)]) [.i 3,.t 3],.S 0 2 2 4] [0,3,4] .ret)) }
def RW:bw:=
 (.seq (.s [.v 27 10,.v 28 7,.J 29 .lss 27 28] [27,28] (.w 29 [10] 2)) (.seq
 (.block 3 (.r [.v 32 9,.v 33 32,.vy 34 1 33,.vy 35 10 33,.y 36 (.indexAddr 4) [.T 34,.t 35] 33,
 .Ey 37 0 36 33,.Dy 38 37 33,.vy 39 1 33,.vy 40 7 33,.y 41 (.indexAddr 4) [.T 39,.t 40] 33,
 .Ey 42 0 41 33,.Dy 43 42 33,.Jy 44 .neq 38 43 33,.O 45 33 44,
 .v 9 45] (some []) [32,33,34,35,36,37,38,39,40,41,42,43,44,45])) (.g [.v 30 10,.I 31 .add 30 1,
 .v 10 31] [30,31])))
def RX:bw:=
 (.seq (.s [.v 11 7,.v 12 1,.H 13 12,.J 14 .lss 11 13] [11,13] (.w 14 [0,1,7] 0)) (.seq (.block 1 (.s [.v 18 0,.v 19 1,.v 20 7,.X 21 4 19 20,
 .E 22 1 21,.L 23 2 22,.c 24 89 [.T 18,.t 23],.w 17 24,.x 25 0 17,
 .u 26 1 17,.G 8 1 [.i 0,.i 0,.i 0],.S 1 3 8 25,.v 9 26] [20,23,25,26]
 (.seq (.s [.m 10 (.i 0)] [] (.block 2 (.loop RW))) (.seq (.s [.v 46 9,
 .o 47 (.un .not) [.t 46]] [9,46] (.cond (.T 47) [0,6,8] (.s [.w 48 1,.v 49 7,.X 50 4 48 49,
 .E 51 3 50,.D 52 51,.a 53 87 52,.o 4 .move [.const .U],
 .S 0 2 5 53] [7,49,52,53] .ret) [] .skip)) (.r [.w 54 6,.v 55 1,.v 56 7,
 .X 57 4 55 56,.E 58 0 57,.D 59 58,.A 60 1 3 8,
 .o 61 (.build [.str [],.i 0,.i 0,.i 0] [(0,1),(1,3)]) [.t 59,.t 60],
 .o 62 (.lit 4 1 [.str [],.i 0,.i 0,.i 0] [0]) [.t 61],.o 63 (.append 4 40) [.T 54,.T 62],
 .w 6 63] (some []) [8,56,59,60,61]))))) (.g [.v 15 7,.I 16 .add 15 1,
 .v 7 16] [15,16])))
def s88:aH:={ eM:=88,mode:=.pure,aF:=2,aP:=2,dj:=[],results:=[.tmp 4 true,.box 5 0 2 true],body:=
 (.s [.o 4 .move [.const .U],.G 5 0 [.i 0,.i 0]] [4] (.s [.o 6 .move [.const .U]] []
 (.seq (.s [.m 7 (.i 0)] [] (.block 0 (.loop RX))) (.s [.w 64 6,
 .o 65 (.build [.i 0,.i 0] []) [],.w 4 64,.S 0 2 5 65] [65] .ret)))) }
def RZ:bw:=
 (.seq (.s [.v 28 6,.v 29 0,.H 30 29,.J 31 .lss 28 30] [28,30] (.w 31 [0,3,6] 1)) (.seq (.block 2 (.seq (.r [.v 34 0,.v 35 6,.X 36 1 34 35,
 .D 37 36,.e 38 0 3,.k 39 0 38,
 .J 40 .eql 37 39] (some []) [35,37,38,39]) (.cond (.T 40) [0] (.s [.v 41 6,.e 42 1 3,
 .k 43 0 42,.o 44 (.build [.i 0,.i 0,.i 0] [(0,1),(1,1),(2,1)]) [.i 3,.t 41,.t 43],
 .S 1 3 4 44,.m 5 (.b true)] [3,6,41,42,43,44] .ret) [] .skip))) (.g [.v 32 6,
 .I 33 .add 32 1,.v 6 33] [32,33])))
def Zp:aH:={ eM:=89,mode:=.pure,aF:=2,aP:=2,dj:=[],results:=[.box 4 1 3 true,.tmp 5 false],body:=
 (.s [.o 3 (.qV 0 2) [.t 1],.G 4 1 [.i 0,.i 0,.i 0],.m 5 (.b false)] [1,5] (.seq
 (.s [.e 7 1 3,.k 8 0 7,.I 9 .lss 8 0,.v 10 9,
 .ez 11 1 3 10,.kz 12 0 11 10,.Iz 13 .gtr 12 3 10,
 .P 14 10 13] [7,8,9,10,11,12,13] (.cond (.T 14) [0,3] (.s [
 .o 15 (.build [.i 0,.i 0,.i 0] []) [],.S 1 3 4 15,.m 5 (.b false)] [15] .ret) [] .skip))
 (.seq (.s [.e 16 0 3,.k 17 0 16] [16] (.block 0 (.s [
 .o 19 (.rU .eql) [.t 17,.const (.str [105,110,116])],.v 18 19] [19] (.cond (.T 18) [0,17] (.s [.e 20 1 3,
 .k 21 0 20,.o 22 (.build [.i 0,.i 0,.i 0] [(0,1),(2,1)]) [.i 1,.t 21],
 .S 1 3 4 22,.m 5 (.b true)] [3,20,21,22] .ret) [] (.s [
 .o 24 (.rU .eql) [.t 17,.const (.str [98,111,111,108])],.v 23 24] [17,24] (.cond (.T 23) [0] (.s [.e 25 1 3,
 .k 26 0 25,.o 27 (.build [.i 0,.i 0,.i 0] [(0,1),(2,1)]) [.i 2,.t 26],
 .S 1 3 4 27,.m 5 (.b true)] [3,25,26,27] .ret) [] .skip)))))) (.seq (.s [
 .m 6 (.i 0)] [] (.block 1 (.loop RZ))) (.s [.o 45 (.build [.i 0,.i 0,.i 0] []) [],
 .S 1 3 4 45,.m 5 (.b false)] [45] .ret))))) }
def rC:bw:=
 (.seq (.s [.v 60 10,.e 61 4 3,.k 62 0 61,.H 63 62,
 .J 64 .lss 60 63,.v 65 64,.vy 66 0 65,.y 67 (.call 52) [.t 66] 65,
 .O 68 65 67] [60,61,63,64,65,66,67] (.w 68 [10] 0)) (.seq (.block 1 (.s [
 .e 71 0 3,.k 72 0 71,.I 73 .eql 72 9] [71,72] (.cond (.T 73) []
 (.r [.e 74 4 5,.o 75 (.fD 2 false 1 true) [.t 74],.v 76 0,.e 77 4 3,
 .k 78 0 77,.v 79 10,.X 80 11 78 79,.L 81 11 80,
 .p 82 109 76 81,
 .o 83 (.lit 11 1 [.i 0,.i 0,.str [],.str [],.i 0,.U,.i 0,.i 0,.i 0,.i 0,.i 0] [0]) [.T 82],
 .o 84 (.append 11 120) [.T 75,.T 83],.e 85 4 5,.Q 2 1 85 84] (some []) [74,76,77,79,85]) [] (.r [
 .e 86 4 5,.o 87 (.fD 2 false 1 true) [.t 86],.v 88 0,.e 89 4 3,.k 90 0 89,
 .v 91 10,.X 92 11 90 91,.L 93 11 92,.p 94 110 88 93,
 .o 95 (.lit 11 1 [.i 0,.i 0,.str [],.str [],.i 0,.U,.i 0,.i 0,.i 0,.i 0,.i 0] [0]) [.T 94],
 .o 96 (.append 11 120) [.T 87,.T 95],.e 97 4 5,.Q 2 1 97 96] (some []) [86,88,89,91,97])))) (.g [
 .v 69 10,.I 70 .add 69 1,.v 10 70] [69,70])))
def Le:bw:=
 (.seq (.s [.v 189 15,.v 190 0,.N 191 190,.E 192 11 191,
 .D 193 192,.H 194 193,.J 195 .lss 189 194] [189,190,194] (.w 195 [15] 3)) (.seq (.block 4 (.r [.v 198 11,.v 199 198,.vy 200 0 199,.y 201 .nilCheck [.t 200] 199,
 .Ey 202 11 201 199,.Dy 203 202 199,.vy 204 15 199,.y 205 (.indexAddr 4) [.T 203,.t 204] 199,
 .Ey 206 0 205 199,.Dy 207 206 199,.ey 208 1 3 199,.ky 209 0 208 199,
 .Jy 210 .neq 207 209 199,.O 211 199 210,
 .v 11 211] (some []) [198,199,200,201,202,203,204,205,206,207,208,209,210,211])) (.g [.v 196 15,
 .I 197 .add 196 1,.v 15 197] [196,197])))
def ox:aH:={ eM:=90,mode:=.kg,aF:=2,aP:=6,dj:=[],results:=[.box 4 1 9 true],body:=
 (.s [.B 3 0 9 1,.o 4 (.bT 1 [.i 0,.str [],.str [],.i 0,.U,.U,.U,.i 0,.i 0]) []] []
 (.s [.e 16 0 3,.k 17 0 16,.e 18 7 3,.k 19 0 18,
 .o 20 (.build [.i 0,.str [],.str [],.i 0,.U,.U,.U,.i 0,.i 0] [(0,1),(7,1)]) [.t 17,.t 19],
 .o 5 (.bT 2 [.i 0,.str [],.str [],.i 0,.U,.U,.U,.i 0,.i 0]) [],.Q 2 9 5 20] [16,17,18,19]
 (.seq (.s [.v 21 0,.A 22 0 9 3,.p 23 107 21 22,.o 24 (.un .not) [.t 23]] [21,23]
 (.cond (.T 24) [] (.s [.v 25 0,.e 26 7 3,.k 27 0 26,
 .q 28 108 25 27] [0,3,25,26,27,28] (.s [.A 29 2 9 5,.Q 1 9 4 29] [5]
 .ret)) [] .skip)) (.s [.G 6 3 [.i 0,.i 0,.i 0]] [] (.s [.e 30 0 3,
 .k 31 0 30,.I 32 .eql 31 1,.v 33 32,.ez 34 0 3 33,
 .kz 35 0 34 33,.Iz 36 .eql 35 2 33,.P 37 33 36,
 .v 7 37] [30,31,32,33,34,35,36,37] (.seq (.s [.v 38 7] [] (.cond (.T 38) [] (.seq (.r [.v 40 0,
 .N 41 40,.E 42 4 41,.D 43 42,.e 44 2 3,
 .A 45 0 2 44,.c 46 89 [.T 43,.t 45],.w 39 46,.x 47 0 39,.x 48 1 39,
 .G 8 4 [.i 0,.i 0,.i 0],.S 4 3 8 47,.v 9 48] (some []) [39,40,44,45,47,48]) (.seq (.s [.v 49 9,.o 50 (.un .not) [.t 49]] [9,49] (.cond (.T 50) [6,7,8] (.s [.v 51 0,.e 52 7 3,
 .k 53 0 52,.q 54 108 51 53] [0,3,51,52,53,54] (.s [.A 55 2 9 5,
 .Q 1 9 4 55] [5] .ret)) [] .skip)) (.s [.A 56 4 3 8,.S 3 3 6 56] [8,56]
 (.g [.e 57 2 3,.A 58 0 2 57,.e 59 2 5,
 .S 2 2 59 58] [57,58,59])))) [] .skip)) (.seq (.s [.m 10 (.i 0)] [] (.block 0 (.loop rC)))
 (.seq (.s [.v 98 0,.a 99 52 98,.o 100 (.un .not) [.t 99]] [98,99] (.cond (.T 100) [0,3,6,7] (.s [
 .A 101 2 9 5,.Q 1 9 4 101] [5] .ret) [] .skip)) (.s [.m 11 (.b true)] []
 (.seq (.s [.e 102 0 3,.k 103 0 102] [102] (.block 2 (.s [
 .I 105 .eql 103 2,.v 104 105] [105] (.cond (.T 104) [11,103] (.r [.e 106 4 5,
 .k 107 2 106,.Z 108 11 107 0,.E 109 7 108,
 .L 110 3 109,.A 111 3 3 6,.o 112 (.qj (.flat [.int,.int,.int]) false) [.t 110,.t 111],
 .v 11 112] (some []) [106,110,111,112]) [] (.s [.I 114 .eql 103 3,.v 113 114] [114]
 (.cond (.T 113) [11,103] (.s [.v 116 0,.e 117 1 3,.k 118 0 117,
 .q 119 111 116 118,.w 115 119,.x 120 0 115,.x 121 1 115,.u 122 2 115,
 .G 13 5 [.i 0,.i 0,.i 0],.v 12 120,.S 5 3 13 121,
 .v 14 122] [116,117,118,120,121,122] (.s [.v 123 12,.e 124 8 5,
 .S 2 1 124 123] [12,123,124] (.r [.v 125 14,.v 126 125,.y 127 (.fD 5 true 3 false) [.t 13] 126,
 .ey 128 4 5 126,.ky 129 2 128 126,.Zy 130 11 129 0 126,
 .Ey 131 7 130 126,.y 132 (.load true 3 false) [.T 131] 126,.y 133 (.qj (.flat [.int,.int,.int]) false) [.t 127,.t 132] 126,
 .O 134 126 133,.v 11 134] (some []) [13,14,125,126,127,128,129,130,131,132,133,134]))) [] (.s [
 .I 136 .eql 103 4,.v 135 136] [136] (.cond (.T 135) [11,103] (.r [.e 137 4 5,
 .k 138 2 137,.Z 139 11 138 0,.E 140 7 139,
 .L 141 3 140,.e 142 4 5,.k 143 2 142,
 .Z 144 11 143 1,.E 145 7 144,.L 146 3 145,
 .o 147 (.qj (.flat [.int,.int,.int]) false) [.t 141,.t 146],.v 11 147] (some []) [137,141,142,146,147]) [] (.seq (.s [
 .I 149 .eql 103 5,.v 148 149] [149] (.cond (.t 148) [] .skip [148] (.g [
 .I 150 .eql 103 6,.v 148 150] [150]))) (.cond (.T 148) [11,103] (.r [.e 151 4 5,
 .k 152 2 151,.Z 153 11 152 0,.E 154 7 153,
 .L 155 3 154,.c 156 112 [],.o 157 (.qj (.flat [.int,.int,.int]) false) [.t 155,.t 156],
 .v 11 157] (some []) [151,155,156,157]) [] (.s [.I 159 .eql 103 7,.v 158 159] [159]
 (.cond (.T 158) [11,103] (.r [.v 160 0,.N 161 160,.E 162 5 161,.E 163 2 162,
 .D 164 163,.o 165 (.un .not) [.t 164],.v 166 165,.ez 167 4 5 166,
 .kz 168 2 167 166,.z 169 (.indexAddr 11) [.T 168,.i 0] 166,.Ez 170 7 169 166,
 .z 171 (.load true 3 false) [.T 170] 166,.vz 172 0 166,.z 173 .nilCheck [.t 172] 166,.Ez 174 5 173 166,
 .Ez 175 3 174 166,.z 176 (.load true 3 false) [.T 175] 166,.z 177 (.qj (.flat [.int,.int,.int]) false) [.t 171,.t 176] 166,
 .P 178 166 177,.v 11 178] (some []) [160,164,165,166,167,168,169,170,171,172,173,174,175,176,177,178]) [] (.s [.I 180 .eql 103 8,.v 179 180] [103,180] (.cond (.T 179) [11] (.r [
 .e 181 4 5,.k 182 2 181,.Z 183 11 182 0,.E 184 7 183,
 .L 185 3 184,.c 186 113 [],.o 187 (.qj (.flat [.int,.int,.int]) false) [.t 185,.t 186],
 .v 11 187] (some []) [181,185,186,187]) [] .skip)))))))))))))) (.seq (.s [.v 188 7] [] (.cond (.T 188) [] (.seq (.s [.m 15 (.i 0)] [] (.block 3 (.loop Le))) (.g [.v 212 0,.N 213 212,
 .E 214 11 213,.D 215 214,.H 216 215,.e 217 8 5,
 .S 2 1 217 216] [212,216,217])) [] .skip)) (.seq (.s [.v 218 11,.o 219 (.un .not) [.t 218]] [11,218]
 (.cond (.T 219) [6,7] (.s [.v 220 0,.e 221 7 3,.k 222 0 221,
 .q 223 108 220 222] [0,3,220,221,222,223] (.s [.A 224 2 9 5,
 .Q 1 9 4 224] [5] .ret)) [] .skip)) (.seq (.s [.v 225 7] [] (.cond (.T 225) [] (.r [
 .v 226 0,.v 227 0,.N 228 227,.E 229 11 228,.o 230 (.load false 1 true) [.T 229],
 .e 231 1 3,.k 232 0 231,.A 233 3 3 6,
 .o 234 (.build [.str [],.i 0,.i 0,.i 0] [(0,1),(1,3)]) [.t 232,.t 233],
 .o 235 (.lit 4 1 [.str [],.i 0,.i 0,.i 0] [0]) [.t 234],.o 236 (.append 4 40) [.T 230,.T 235],.N 237 226,
 .E 238 11 237,.n (.store 1) [.T 238,.T 236]] (some []) [6,226,227,231,232,233,234]) [6] .skip)) (.seq (.s [.v 239 7,
 .v 240 239,.ez 241 0 3 240,.kz 242 0 241 240,.Iz 243 .eql 242 3 240,
 .P 244 240 243] [7,239,240,241,242,243] (.cond (.T 244) [] (.g [.e 245 1 3,
 .k 246 0 245,.e 247 1 5,.S 2 1 247 246] [245,246,247]) [] .skip)) (.seq (.s [.e 248 0 3,.k 249 0 248,.I 250 .eql 249 5,.v 251 250,
 .ez 252 0 3 251,.kz 253 0 252 251,.Iz 254 .eql 253 6 251,
 .P 255 251 254] [248,249,250,251,252,253,254] (.cond (.T 255) [] (.g [.v 256 0,
 .e 257 5 3,.k 258 0 257,.p 259 51 256 258,.e 260 5 5,
 .Q 2 1 260 259] [256,257,260]) [] .skip)) (.seq (.s [.e 261 0 3,
 .k 262 0 261,.I 263 .eql 262 5] [261,262] (.cond (.T 263) [] (.g [.v 264 0,
 .e 265 6 3,.k 266 0 265,.p 267 51 264 266,.e 268 6 5,
 .Q 2 1 268 267] [0,3,264,265,268]) [0,3] .skip)) (.s [.A 269 2 9 5,
 .Q 1 9 4 269] [5] .ret))))))))))))))))) }
def R1:bw:=
 (.seq (.s [.v 5 4,.e 6 5 3,.k 7 0 6,.H 8 7,
 .J 9 .lss 5 8] [5,6,8] (.w 9 [4] 0)) (.seq (.block 1 (.g [.v 12 0,.e 13 5 3,
 .k 14 0 13,.v 15 4,.X 16 11 14 15,.L 17 11 16,
 .p 18 91 12 17] [12,13,15,18])) (.g [.v 10 4,.I 11 .add 10 1,
 .v 4 11] [10,11])))
def s91:aH:={ eM:=91,mode:=.kg,aF:=2,aP:=1,dj:=[],results:=[],body:=
 (.s [.B 3 0 11 1] [] (.seq (.s [.m 4 (.i 0)] [] (.block 0 (.loop R1))) (.seq
 (.r [.e 19 0 3,.k 20 0 19,.I 21 .eql 20 4,.v 22 21,
 .ey 23 10 3 22,.ky 24 0 23 22,.Iy 25 .geq 24 0 22,
 .O 26 22 25,.v 27 26,.vy 28 0 27,.y 29 .nilCheck [.t 28] 27,.Ey 30 0 29 27,
 .Dy 31 30 27,.ey 32 10 3 27,.ky 33 0 32 27,.y 34 (.indexAddr 1) [.T 31,.t 33] 27,
 .Dy 35 34 27,.y 36 (.un .not) [.t 35] 27,.O 37 27 36,.v 38 37,
 .vy 39 0 38,.y 40 .nilCheck [.t 39] 38,.Ey 41 1 40 38,.Ey 42 0 41 38,.Dy 43 42 38,
 .Iy 44 .eql 43 0 38,
 .O 45 38 44] (some []) [19,20,21,22,23,24,25,26,27,28,29,30,31,32,33,34,35,36,37,38,39,40,41,42,43,44]) (.cond (.T 45) []
 (.g [.v 46 0,.e 47 6 3,.k 48 0 47,.a 49 87 48,.N 50 46,
 .E 51 1 50,.R 2 51 49] [0,3,46,47,48,49]) [0,3] .skip)))) }
def Lg:bw:=
 (.seq (.s [.v 3 2,.v 4 0,.N 5 4,.E 6 0 5,.D 7 6,
 .H 8 7,.J 9 .lss 3 8] [3,4,8] (.w 9 [0,2] 0)) (.seq (.block 1 (.g [.v 12 0,
 .N 13 12,.E 14 0 13,.D 15 14,.v 16 2,.X 17 1 15 16,
 .n (.store 1) [.T 17,.b true]] [12,16])) (.g [.v 10 2,.I 11 .add 10 1,
 .v 2 11] [10,11])))
def s92:aH:={ eM:=92,mode:=.kg,aF:=1,aP:=0,dj:=[],results:=[],body:=
 (.s [.m 2 (.i 0)] [] (.block 0 (.loop Lg))) }
def Fm:aH:={ eM:=93,mode:=.zg,aF:=2,aP:=1,dj:=[],results:=[.tmp 4 false],body:=
 (.s [.B 3 0 11 1,.m 4 (.i 0)] [4] (.seq (.s [.e 7 0 3,
 .k 8 0 7,.I 9 .eql 8 4,.v 10 9,.ey 11 10 3 10,
 .ky 12 0 11 10,.Iy 13 .geq 12 0 10,
 .O 14 10 13] [7,8,9,10,11,12,13] (.cond (.T 14) [0] (.s [.e 15 10 3,
 .k 16 0 15,.v 4 16] [3,15,16] .ret) [] .skip)) (.s [.v 17 0,.e 18 5 3,
 .k 19 0 18,.p 20 94 17 19,.w 5 20] [17,18] (.seq (.s [.e 21 7 3,
 .A 22 0 3 21,.o 23 (.build [.i 0,.i 0,.i 0] []) [],
 .o 24 (.qj (.flat [.int,.int,.int]) false) [.t 22,.t 23]] [21,22,23] (.cond (.T 24) [] (.s [.v 25 0,
 .e 26 10 3,.k 27 0 26,.w 28 5,
 .o 29 (.build [.i 0,.i 0,.i 0,.i 0,.i 0,.U] [(0,1),(1,1),(3,1),(5,1)]) [.i 13,.const (.i (-1)),.t 27,.T 28],
 .p 30 55 25 29] [0,3,25,26,27,30] (.s [.o 4 .move [.const (.i (-1))]] [] .ret)) [] .skip)) (.s [
 .v 31 0,.e 32 7 3,.A 33 0 3 32,.q 34 27 31 33,
 .v 6 34] [31,32,33,34] (.seq (.s [.e 35 0 3,.k 36 0 35] [35] (.block 0 (.seq
 (.s [.I 50 .eql 36 1,.v 49 50] [50] (.cond (.t 49) [] .skip [49] (.g [
 .I 51 .eql 36 2,.v 49 51] [51]))) (.cond (.T 49) [5,36] (.g [.v 52 0,.v 53 6,
 .e 54 1 3,.k 55 0 54,
 .o 56 (.build [.i 0,.i 0,.i 0,.i 0,.i 0,.U] [(0,1),(1,1),(4,1)]) [.i 1,.t 53,.t 55],
 .p 57 55 52 56] [0,3,52,53,54,55,57]) [] (.s [.I 59 .eql 36 3,.v 58 59] [59]
 (.cond (.T 58) [3,5,36] (.g [.v 60 0,.v 61 6,
 .o 62 (.build [.i 0,.i 0,.i 0,.i 0,.i 0,.U] [(0,1),(1,1)]) [.i 2,.t 61],
 .p 63 55 60 62] [0,60,61,63]) [] (.s [.I 65 .eql 36 4,.v 64 65] [65]
 (.cond (.T 64) [5,36] (.g [.v 66 0,.v 67 6,.e 68 10 3,.k 69 0 68,
 .o 70 (.rU .sub) [.const (.i (-1)),.t 69],
 .o 71 (.build [.i 0,.i 0,.i 0,.i 0,.i 0,.U] [(0,1),(1,1),(4,1)]) [.i 19,.t 67,.t 70],
 .p 72 55 66 71] [0,3,66,67,68,69,70,72]) [] (.s [.I 74 .eql 36 5,
 .v 73 74] [74] (.cond (.T 73) [36] (.r [.v 75 0,.v 76 6,.w 77 5,
 .Z 78 1 77 0,.D 79 78,.e 80 10 3,.k 81 0 80,
 .o 82 (.build [.i 0,.i 0,.i 0,.i 0,.i 0,.U] [(0,1),(1,1),(2,1),(3,1)]) [.i 6,.t 76,.t 79,.t 81],
 .p 83 55 75 82] (some []) [0,3,75,76,79,80,81,83]) [] (.s [.I 85 .eql 36 6,
 .v 84 85] [85] (.cond (.T 84) [3,36] (.r [.v 86 0,.v 87 6,.v 88 5,
 .Z 89 1 88 0,.D 90 89,.v 91 5,.Z 92 1 91 1,
 .D 93 92,
 .o 94 (.build [.i 0,.i 0,.i 0,.i 0,.i 0,.U] [(0,1),(1,1),(2,1),(3,1)]) [.i 8,.t 87,.t 90,.t 93],
 .p 95 55 86 94] (some []) [0,5,86,87,90,93,95]) [] (.s [.I 97 .eql 36 7,
 .v 96 97] [97] (.cond (.T 96) [36] (.g [.v 98 0,.v 99 6,.e 100 10 3,
 .k 101 0 100,.w 102 5,
 .o 103 (.build [.i 0,.i 0,.i 0,.i 0,.i 0,.U] [(0,1),(1,1),(3,1),(5,1)]) [.i 13,.t 99,.t 101,.T 102],
 .p 104 55 98 103] [0,3,98,99,100,101,104]) [] (.s [.I 106 .eql 36 8,
 .v 105 106] [106] (.cond (.T 105) [5,36] (.g [.v 107 0,.v 108 6,.v 109 0,
 .e 110 7 3,.A 111 0 3 110,.q 112 114 109 111,
 .o 113 (.build [.i 0,.i 0,.i 0,.i 0,.i 0,.U] [(0,1),(1,1),(4,1)]) [.i 11,.t 108,.t 112],
 .p 114 55 107 113] [0,3,107,108,109,110,111,112,114]) [] (.s [.I 116 .eql 36 9,
 .v 115 116] [116] (.cond (.T 115) [36] (.r [.v 117 0,.v 118 6,.w 119 5,
 .Z 120 1 119 0,.D 121 120,.v 122 0,.e 123 7 3,
 .A 124 0 3 123,.q 125 114 122 124,
 .o 126 (.build [.i 0,.i 0,.i 0,.i 0,.i 0,.U] [(0,1),(1,1),(2,1),(4,1)]) [.i 12,.t 118,.t 121,.t 125],
 .p 127 55 117 126] (some [(3,8),(4,8)]) [0,3,117,118,121,122,123,124,125,127]) [] (.s [
 .I 129 .eql 36 10,.v 128 129] [129] (.cond (.T 128) [3,36] (.g [.v 130 0,
 .v 131 6,.w 132 5,.Z 133 1 132 0,.D 134 133,
 .o 135 (.build [.i 0,.i 0,.i 0,.i 0,.i 0,.U] [(0,1),(1,1),(2,1)]) [.i 10,.t 131,.t 134],
 .p 136 55 130 135] [0,130,131,134,136]) [] (.s [.I 138 .eql 36 11,
 .v 137 138] [138] (.cond (.T 137) [3,5,36] (.g [.v 139 0,.v 140 6,
 .o 141 (.build [.i 0,.i 0,.i 0,.i 0,.i 0,.U] [(0,1),(1,1)]) [.i 14,.t 140],
 .p 142 55 139 141] [0,139,140,142]) [] (.seq (.s [.I 144 .eql 36 12,
 .v 143 144] [144] (.cond (.t 143) [36] .skip [143] (.g [.I 145 .eql 36 13,
 .v 143 145] [36,145]))) (.cond (.T 143) [] (.r [.v 146 0,.v 147 6,.w 148 5,
 .Z 149 1 148 0,.D 150 149,.e 151 0 3,
 .k 152 0 151,
 .o 153 (.build [.i 0,.i 0,.i 0,.i 0,.i 0,.U] [(0,1),(1,1),(2,1),(4,1)]) [.i 5,.t 147,.t 150,.t 152],
 .p 154 55 146 153] (some []) [0,3,146,147,150,151,152,154]) [] (.r [.v 37 0,.v 38 6,.v 39 5,
 .Z 40 1 39 0,.D 41 40,.v 42 5,.Z 43 1 42 1,
 .D 44 43,.e 45 0 3,.k 46 0 45,
 .o 47 (.build [.i 0,.i 0,.i 0,.i 0,.i 0,.U] [(0,1),(1,1),(2,1),(3,1),(4,1)]) [.i 4,.t 38,.t 41,.t 44,.t 46],
 .p 48 55 37 47] (some []) [0,3,5,37,38,41,44,45,46,48]))))))))))))))))))))))))) (.s [.v 155 6,
 .v 4 155] [6,155] .ret))))))) }
def R3:bw:=
 (.seq (.s [.v 7 6,.v 8 1,.H 9 8,.J 10 .lss 7 9] [7,9] (.w 10 [0,1,6] 0)) (.seq (.block 1 (.g [.w 13 5,.v 14 0,.v 15 1,.v 16 6,
 .X 17 11 15 16,.L 18 11 17,.p 19 93 14 18,.o 20 (.lit 1 1 [.i 0] [0]) [.t 19],
 .o 21 (.append 1 8) [.T 13,.T 20],.w 5 21] [14,16,19])) (.g [.v 11 6,.I 12 .add 11 1,
 .v 6 12] [11,12])))
def s94:aH:={ eM:=94,mode:=.zg,aF:=2,aP:=0,dj:=[],results:=[.tmp 4 true],body:=
 (.s [.o 4 .move [.const .U]] [4] (.s [.o 5 .move [.const .U]] [] (.seq (.s [
 .m 6 (.i 0)] [] (.block 0 (.loop R3))) (.s [.w 22 5,.w 4 22] [] .ret)))) }
def s95:aH:={ eM:=95,mode:=.pure,aF:=0,aP:=0,dj:=[],results:=[.tmp 0 true],body:=
 (.s [.o 0 .move [.const .U]] [0] (.s [
 .o 1 (.lit 1 18 [.str []] [0,1,2,3,4,5,6,7,8,9,10,11,12,13,14,15,16,17]) [.const (.str [114,101,99,111,114,100]),.const (.str [103,108,111,98,97,108]),.const (.str [102,117,110,99]),.const (.str [118,97,114]),.const (.str [108,101,116]),.const (.str [105,102]),.const (.str [101,108,115,101]),.const (.str [119,104,105,108,101]),.const (.str [114,101,116,117,114,110]),.const (.str [112,114,105,110,116]),.const (.str [110,117,108,108]),.const (.str [110,101,119]),.const (.str [108,101,110]),.const (.str [114,101,97,100]),.const (.str [116,114,117,101]),.const (.str [102,97,108,115,101]),.const (.str [105,110,116]),.const (.str [98,111,111,108])],
 .w 0 1] [] .ret)) }
def R4:bw:=
 (.seq (.s [.v 16 0,.a 17 12 16,.v 18 17,.vy 19 1 18,.vy 20 0 18,
 .y 21 (.call 13) [.t 20] 18,.y 22 (.call 116) [.t 19,.t 21] 18,.Iy 23 .neq 22 0 18,
 .O 24 18 23] [16,17,18,19,20,21,22,23] (.w 24 [0,1] 0)) (.block 1 (.s [
 .v 25 0,.a 26 13 25,.o 6 (.bT 2 [.i 0,.str [],.i 0,.i 0]) [],.S 2 4 6 26] [25,26]
 (.s [.v 27 0,.N 28 27,.E 29 1 28,.D 30 29,
 .I 31 .add 30 1,.N 32 27,.E 33 1 32,.R 1 33 31] [27,30,31] (.s [.v 34 0,.v 35 1,.I 36 .add 35 1,.q 37 96 34 36,
 .o 7 (.bT 3 [.i 0,.i 0,.str [],.str [],.i 0,.U,.i 0,.i 0,.i 0,.i 0,.i 0]) [],
 .Q 3 11 7 37] [34,35,36] (.r [.v 38 1,.A 39 2 4 6,.q 40 116 38 39,
 .A 41 1 11 5,.A 42 3 11 7,
 .o 43 (.lit 11 2 [.i 0,.i 0,.str [],.str [],.i 0,.U,.i 0,.i 0,.i 0,.i 0,.i 0] [0,1]) [.T 41,.T 42],
 .e 44 3 6,.k 45 2 44,
 .o 46 (.build [.i 0,.i 0,.str [],.str [],.i 0,.U,.i 0,.i 0,.i 0,.i 0,.i 0] [(0,1),(5,1),(6,1)]) [.t 40,.T 43,.t 45],
 .Q 1 11 5 46] (some []) [6,7,38,39,40,44,45]))))))
def s96:aH:={ eM:=96,mode:=.kg,aF:=2,aP:=4,dj:=[],results:=[.box 4 0 11 true],body:=
 (.s [
 .o 4 (.bT 0 [.i 0,.i 0,.str [],.str [],.i 0,.U,.i 0,.i 0,.i 0,.i 0,.i 0]) []] [] (.seq
 (.s [.v 8 1,.I 9 .eql 8 5] [8] (.cond (.T 9) [1] (.s [.v 10 0,
 .a 11 115 10,.Q 0 11 4 11] [0,10] .ret) [] .skip)) (.s [.v 12 0,.v 13 1,
 .I 14 .add 13 1,.q 15 96 12 14,
 .o 5 (.bT 1 [.i 0,.i 0,.str [],.str [],.i 0,.U,.i 0,.i 0,.i 0,.i 0,.i 0]) [],
 .Q 1 11 5 15] [12,13,14] (.seq (.block 0 (.loop R4)) (.s [.A 47 1 11 5,
 .Q 0 11 4 47] [5] .ret))))) }
def XH:aH:={ eM:=97,mode:=.kg,aF:=2,aP:=4,dj:=[],results:=[.box 4 1 9 true],body:=
 (.s [.B 3 0 9 1,.o 4 (.bT 1 [.i 0,.str [],.str [],.i 0,.U,.U,.U,.i 0,.i 0]) []] []
 (.s [.v 7 0,.c 8 96 [.t 7,.i 0],
 .o 5 (.bT 2 [.i 0,.i 0,.str [],.str [],.i 0,.U,.i 0,.i 0,.i 0,.i 0,.i 0]) [],
 .Q 2 11 5 8] [7] (.seq (.s [.v 9 0,.c 10 14 [.t 9,.const (.str [61])],
 .o 11 (.un .not) [.t 10]] [9,10] (.cond (.T 11) [] (.s [.e 12 0 3,
 .n (.jH 0 1) [.t 12,.i 9]] [12] (.s [.A 13 2 11 5,
 .o 14 (.lit 11 1 [.i 0,.i 0,.str [],.str [],.i 0,.U,.i 0,.i 0,.i 0,.i 0,.i 0] [0]) [.T 13],
 .e 15 4 3,.Q 0 1 15 14] [15] (.seq (.s [.v 16 0,
 .c 17 14 [.t 16,.const (.str [59])],.v 18 17,.ey 19 0 5 18,.ky 20 2 19 18,
 .Iy 21 .neq 20 7 18,.O 22 18 21] [5,16,17,18,19,20,21] (.cond (.T 22) [] (.g [
 .v 23 0,.c 24 15 [.t 23,.i 2]] [23,24]) [] .skip)) (.s [.v 25 0,
 .c 26 18 [.t 25,.const (.str [59])]] [0,25,26] (.s [.A 27 0 9 3,.Q 1 9 4 27] [3]
 .ret))))) [] .skip)) (.seq (.s [.e 28 0 5,.k 29 2 28,
 .I 30 .neq 29 4,.v 31 30,.ey 32 0 5 31,.ky 33 2 32 31,
 .Iy 34 .neq 33 5 31,.O 35 31 34,.v 36 35,.ey 37 0 5 36,
 .ky 38 2 37 36,.Iy 39 .neq 38 6 36,
 .O 40 36 39] [28,29,30,31,32,33,34,35,36,37,38,39] (.cond (.T 40) [] (.g [.v 41 0,
 .c 42 15 [.t 41,.i 2]] [41,42]) [] .skip)) (.s [.v 43 0,
 .c 44 18 [.t 43,.const (.str [61])]] [43,44] (.s [.v 45 0,.c 46 96 [.t 45,.i 0],
 .o 6 (.bT 3 [.i 0,.i 0,.str [],.str [],.i 0,.U,.i 0,.i 0,.i 0,.i 0,.i 0]) [],
 .Q 3 11 6 46] [45] (.s [.v 47 0,.c 48 18 [.t 47,.const (.str [59])]] [0,47,48] (.seq (.s [.e 49 0 5,.k 50 2 49,.I 51 .eql 50 4] [49,50]
 (.cond (.T 51) [] (.s [.e 52 0 3,.n (.jH 0 1) [.t 52,.i 3]] [52] (.s [
 .e 53 2 5,.k 54 2 53,.e 55 1 3,.S 0 1 55 54] [5,53,54,55] (.s [.A 56 3 11 6,
 .o 57 (.lit 11 1 [.i 0,.i 0,.str [],.str [],.i 0,.U,.i 0,.i 0,.i 0,.i 0,.i 0] [0]) [.T 56],
 .e 58 4 3,.Q 0 1 58 57] [6,58] (.s [.A 59 0 9 3,
 .Q 1 9 4 59] [3] .ret)))) [] .skip)) (.s [.e 60 0 3,
 .n (.jH 0 1) [.t 60,.i 4]] [60] (.s [.A 61 2 11 5,.A 62 3 11 6,
 .o 63 (.lit 11 2 [.i 0,.i 0,.str [],.str [],.i 0,.U,.i 0,.i 0,.i 0,.i 0,.i 0] [0,1]) [.T 61,.T 62],
 .e 64 4 3,.Q 0 1 64 63] [5,6,64] (.s [.A 65 0 9 3,
 .Q 1 9 4 65] [3] .ret))))))))))) }
def s98:aH:={ eM:=98,mode:=.pure,aF:=2,aP:=0,dj:=[],results:=[.tmp 4 false],body:=
 (.s [.m 4 (.b false)] [4] (.s [.w 5 0,.v 6 1,.c 7 117 [.T 5,.t 6],
 .I 8 .geq 7 0,.v 4 8] [1,6,7,8] .ret)) }
def s99:aH:={ eM:=99,mode:=.kg,aF:=3,aP:=3,dj:=[],results:=[.box 6 1 3 true],body:=
 (.s [.o 4 (.qV 0 2) [.t 1],.G 6 1 [.i 0,.i 0,.i 0]] [1] (.seq (.r [.v 10 0,
 .N 11 10,.E 12 0 11,.D 13 12,.A 14 0 2 4,
 .c 15 118 [.T 13,.t 14],.w 9 15,.x 16 0 9,.x 17 1 9,
 .G 7 2 [.i 0,.i 0,.i 0],.S 2 3 7 16,.v 8 17] (some []) [4,9,10,14,16,17]) (.seq (.s [.v 18 8,.o 19 (.un .not) [.t 18]] [8,18] (.cond (.T 19) [] (.g [.v 20 0,.v 21 2,
 .q 22 81 20 21] [0,2,20,21,22]) [0,2] .skip)) (.s [.A 23 2 3 7,
 .S 1 3 6 23] [7,23] .ret)))) }
def fL:aH:={ eM:=100,mode:=.kg,aF:=2,aP:=4,dj:=[],results:=[.box 4 1 9 true],body:=
 (.s [.B 3 0 9 1,.o 4 (.bT 1 [.i 0,.str [],.str [],.i 0,.U,.U,.U,.i 0,.i 0]) []] []
 (.s [.e 8 0 3,.k 9 0 8,.e 10 7 3,.k 11 0 10,
 .o 12 (.build [.i 0,.str [],.str [],.i 0,.U,.U,.U,.i 0,.i 0] [(0,1),(7,1)]) [.t 9,.t 11],
 .o 5 (.bT 2 [.i 0,.str [],.str [],.i 0,.U,.U,.U,.i 0,.i 0]) [],.Q 2 9 5 12] [8,9,10,11]
 (.seq (.r [.c 13 119 [],.v 14 0,.A 15 0 9 3,.p 16 120 14 15,
 .G 6 3 [.i 0,.i 0,.i 0],.S 3 3 6 13,.v 7 16] (some []) [13,14,16]) (.seq (.s [
 .v 17 7,.v 18 17,.ey 19 0 3 18,.ky 20 0 19 18,
 .Iy 21 .eql 20 1 18,.vy 22 21 18,.ez 23 0 3 22,.kz 24 0 23 22,
 .Iz 25 .eql 24 2 22,.y 26 .pick [.t 22,.b true,.t 25] 18,
 .O 27 18 26] [17,18,19,20,21,22,23,24,25,26] (.cond (.T 27) [7] (.seq (.r [.v 29 0,
 .N 30 29,.E 31 4 30,.D 32 31,.e 33 2 3,
 .A 34 0 2 33,.c 35 118 [.T 32,.t 34],.w 28 35,.x 36 0 28,.x 37 1 28,
 .S 3 3 6 36,.v 7 37] (some []) [28,29,33,34,36,37]) (.g [.e 38 2 3,
 .A 39 0 2 38,.e 40 2 5,.S 2 2 40 39] [38,39,40])) [] .skip)) (.seq (.s [
 .v 41 7,.o 42 (.un .not) [.t 41]] [7,41] (.cond (.T 42) [5,6] (.s [.v 43 0,.e 44 7 3,
 .k 45 0 44,.q 46 121 43 45] [0,3,43,44,45,46] (.s [
 .o 47 (.build [.i 0,.str [],.str [],.i 0,.U,.U,.U,.i 0,.i 0] []) [],.Q 1 9 4 47] [] .ret)) []
 .skip)) (.seq (.s [.e 48 0 3,.k 49 0 48,
 .I 50 .eql 49 9] [48,49] (.cond (.T 50) [] (.g [.v 51 0,.e 52 4 3,
 .k 53 0 52,.Z 54 11 53 0,.L 55 11 54,
 .p 56 122 51 55,
 .o 57 (.lit 11 1 [.i 0,.i 0,.str [],.str [],.i 0,.U,.i 0,.i 0,.i 0,.i 0,.i 0] [0]) [.T 56],
 .e 58 4 5,.Q 2 1 58 57] [51,52,58]) [] (.g [.v 59 0,.e 60 4 3,
 .k 61 0 60,.p 62 123 59 61,.e 63 4 5,.Q 2 1 63 62] [59,60,63]))) (.seq
 (.s [.v 64 0,.a 65 43 64] [64] (.cond (.T 65) [0,3,5,6] (.s [
 .o 66 (.build [.i 0,.str [],.str [],.i 0,.U,.U,.U,.i 0,.i 0] []) [],.Q 1 9 4 66] [] .ret) []
 .skip)) (.seq (.s [.e 67 0 3,.k 68 0 67,.I 69 .eql 68 1,
 .v 70 69,.ez 71 0 3 70,.kz 72 0 71 70,.Iz 73 .eql 72 2 70,
 .P 74 70 73,.v 75 74,.ez 76 0 3 75,.kz 77 0 76 75,
 .Iz 78 .eql 77 3 75,.P 79 75 78] [67,68,69,70,71,72,73,74,75,76,77,78]
 (.cond (.T 79) [] (.g [.e 80 1 3,.k 81 0 80,.e 82 1 5,
 .S 2 1 82 81] [80,81,82]) [] .skip)) (.s [.v 84 0,.A 85 2 9 5,
 .A 86 3 3 6,.c 87 124 [.t 84,.T 85,.t 86],.w 83 87,.x 88 0 83,.u 89 1 83,
 .e 90 8 5,.S 2 1 90 88,.v 7 89] [6,84,86,88,89,90] (.seq (.s [.v 91 7,
 .o 92 (.un .not) [.t 91]] [7,91] (.cond (.T 92) [5] (.s [.v 93 0,.e 94 7 3,
 .k 95 0 94,.q 96 121 93 95] [0,3,93,94,95,96] (.s [
 .o 97 (.build [.i 0,.str [],.str [],.i 0,.U,.U,.U,.i 0,.i 0] []) [],.Q 1 9 4 97] [] .ret)) []
 .skip)) (.seq (.s [.e 98 0 3,.k 99 0 98,.I 100 .eql 99 5,
 .v 101 100,.ez 102 0 3 101,.kz 103 0 102 101,.Iz 104 .eql 103 6 101,
 .P 105 101 104] [98,99,100,101,102,103,104] (.cond (.T 105) [] (.g [.v 106 0,
 .e 107 5 3,.k 108 0 107,.p 109 83 106 108,.e 110 5 5,
 .Q 2 1 110 109] [106,107,110]) [] .skip)) (.seq (.s [.e 111 0 3,
 .k 112 0 111,.I 113 .eql 112 5] [111,112] (.cond (.T 113) [] (.g [.v 114 0,
 .e 115 6 3,.k 116 0 115,.p 117 83 114 116,.e 118 6 5,
 .Q 2 1 118 117] [0,3,114,115,118]) [0,3] .skip)) (.s [.A 119 2 9 5,
 .Q 1 9 4 119] [5] .ret))))))))))))) }
def MP:bw:=
 (.s [.J 12 .lss 11 10] [] (.seq (.w 12 [9,10,11] 0) (.seq (.block 1 (.s [
 .Y 13 11 9 11,.L 14 11 13,
 .o 7 (.bT 1 [.i 0,.i 0,.str [],.str [],.i 0,.U,.i 0,.i 0,.i 0,.i 0,.i 0]) [],
 .Q 1 11 7 14] [] (.g [.v 15 0,.A 16 1 11 7,.v 17 2,
 .c 18 101 [.t 15,.T 16,.T 17]] [7,15,18]))) (.g [.I 19 .add 11 1,.v 11 19] [19]))))
def Zq:aH:={ eM:=101,mode:=.kg,aF:=3,aP:=2,dj:=[],results:=[],body:=
 (.s [.B 4 0 11 1] [] (.seq (.s [.e 8 5 4,.k 9 0 8,
 .h 10 9,.m 11 (.i 0)] [8] (.block 0 (.loop MP))) (.s [.e 20 0 4,
 .k 21 0 20,.I 22 .eql 21 4,.v 23 22,.ey 24 10 4 23,
 .ky 25 0 24 23,.Iy 26 .geq 25 0 23,.O 27 23 26,
 .v 28 27,.y 29 .move [.T 2] 28,.ey 30 10 4 28,.ky 31 0 30 28,.y 32 (.indexAddr 1) [.T 29,.t 31] 28,
 .Dy 33 32 28,.y 34 (.un .not) [.t 33] 28,.O 35 28 34,.v 36 35,
 .vy 37 0 36,.y 38 .nilCheck [.t 37] 36,.Ey 39 0 38 36,.Ey 40 0 39 36,.Dy 41 40 36,
 .Iy 42 .eql 41 0 36,
 .O 43 36 42] [2,20,21,22,23,24,25,26,27,28,29,30,31,32,33,34,35,36,37,38,39,40,41,42] (.cond (.T 43) [] (.g [
 .v 44 0,.e 45 6 4,.k 46 0 45,
 .o 47 (.build [.i 0,.i 0] [(0,1),(1,1)]) [.i 3,.t 46],.N 48 44,.E 49 0 48,
 .R 2 49 47] [0,4,44,45,46,47]) [0,4] .skip)))) }
def Vp:aH:={ eM:=102,mode:=.zg,aF:=2,aP:=1,dj:=[],results:=[],body:=
 (.s [.B 3 0 9 1] [] (.s [.v 5 0,.e 6 4 3,.k 7 0 6,
 .Z 8 11 7 0,.L 9 11 8,.p 10 106 5 9,.v 4 10] [5,6,10] (.seq
 (.s [.e 11 8 3,.k 12 0 11,.I 13 .lss 12 0] [11,12]
 (.cond (.T 13) [] (.s [.v 14 0,.v 15 4,.e 16 8 3,.k 17 0 16,
 .o 18 (.rU .sub) [.const (.i (-1)),.t 17],
 .o 19 (.build [.i 0,.i 0,.i 0,.i 0,.i 0,.U] [(0,1),(1,1),(4,1)]) [.i 20,.t 15,.t 18],
 .p 20 48 14 19] [0,3,4,14,15,16,17,18,20] .ret) [] .skip)) (.g [.v 21 0,.e 22 8 3,
 .k 23 0 22,.v 24 4,
 .o 25 (.build [.i 0,.i 0,.i 0,.i 0,.i 0,.U] [(0,1),(1,1),(2,1)]) [.i 3,.t 23,.t 24],
 .p 26 48 21 25] [0,3,4,21,22,23,24,26])))) }
def Vq:aH:={ eM:=103,mode:=.zg,aF:=2,aP:=1,dj:=[],results:=[],body:=
 (.s [.B 3 0 9 1] [] (.s [.v 6 0,.e 7 4 3,.k 8 0 7,
 .Z 9 11 8 0,.E 10 5 9,.D 11 10,.p 12 125 6 11,
 .w 4 12] [6,7] (.s [.v 13 0,.e 14 4 3,.k 15 0 14,
 .Z 16 11 15 1,.L 17 11 16,.p 18 106 13 17,.v 5 18] [13,14,18]
 (.seq (.s [.e 19 4 3,.k 20 0 19,.Z 21 11 20 0,
 .E 22 0 21,.D 23 22,.I 24 .eql 23 5] [19,23] (.cond (.T 24) [] (.seq
 (.r [.v 25 0,.w 26 4,.Z 27 1 26 0,.D 28 27,.v 29 5,
 .e 30 4 3,.k 31 0 30,.Z 32 11 31 0,.E 33 10 32,
 .D 34 33,
 .o 35 (.build [.i 0,.i 0,.i 0,.i 0,.i 0,.U] [(0,1),(1,1),(2,1),(3,1)]) [.i 7,.t 28,.t 29,.t 34],
 .p 36 48 25 35] (some []) [0,3,5,25,28,29,30,34,36]) .ret) [3] .skip)) (.r [.v 37 0,.v 38 4,
 .Z 39 1 38 0,.D 40 39,.v 41 4,.Z 42 1 41 1,
 .D 43 42,.v 44 5,
 .o 45 (.build [.i 0,.i 0,.i 0,.i 0,.i 0,.U] [(0,1),(1,1),(2,1),(3,1)]) [.i 9,.t 40,.t 43,.t 44],
 .p 46 48 37 45] (some []) [0,4,5,37,40,43,44,46]))))) }
def Zr:aH:={ eM:=104,mode:=.zg,aF:=2,aP:=1,dj:=[],results:=[],body:=
 (.s [.B 3 0 9 1] [] (.s [.v 6 0,.e 7 4 3,.k 8 0 7,
 .Z 9 11 8 0,.L 10 11 9,.p 11 126 6 10,.v 4 11] [6,7,11] (.s [.v 12 0,.e 13 5 3,.k 14 0 13,.p 15 45 12 14] [12,13,15] (.s [.v 16 0,.o 17 (.build [.i 0,.i 0,.i 0,.i 0,.i 0,.U] [(0,1)]) [.i 16],
 .p 18 48 16 17,.v 5 18] [16,18] (.seq (.r [.v 19 0,.N 20 19,.E 21 5 20,
 .E 22 6 21,.D 23 22,.v 24 4,.v 25 0,.a 26 127 25,
 .X 27 6 23 24,.E 28 3 27,.R 1 28 26] (some [(4,7)]) [4,19,24,25,26]) (.s [
 .v 29 0,.e 30 6 3,.k 31 0 30,.p 32 45 29 31] [3,29,30,32] (.r [
 .v 33 0,.N 34 33,.E 35 5 34,.E 36 6 35,.D 37 36,
 .v 38 5,.v 39 0,.a 40 127 39,.X 41 6 37 38,.E 42 4 41,
 .R 1 42 40] (some [(4,7)]) [0,5,33,38,39,40]))))))) }
def Zs:aH:={ eM:=105,mode:=.zg,aF:=2,aP:=1,dj:=[],results:=[],body:=
 (.s [.B 3 0 9 1] [] (.s [.v 6 0,.a 7 127 6,.v 4 7] [6,7] (.s [.v 8 0,.e 9 4 3,.k 10 0 9,.Z 11 11 10 0,
 .L 12 11 11,.p 13 126 8 12,.v 5 13] [8,9,13] (.s [.v 14 0,
 .e 15 5 3,.k 16 0 15,.p 17 45 14 16] [3,14,15,17] (.s [.v 18 0,
 .v 19 4,.o 20 (.build [.i 0,.i 0,.i 0,.i 0,.i 0,.U] [(0,1),(4,1)]) [.i 16,.t 19],
 .p 21 48 18 20] [4,18,19,21] (.r [.v 22 0,.N 23 22,.E 24 5 23,
 .E 25 6 24,.D 26 25,.v 27 5,.v 28 0,.a 29 127 28,
 .X 30 6 26 27,.E 31 3 30,.R 1 31 29] (some [(4,7)]) [0,5,22,27,28,29])))))) }
def Jq:aH:={ eM:=106,mode:=.zg,aF:=2,aP:=2,dj:=[],results:=[.tmp 4 false],body:=
 (.s [.B 3 0 11 1,.m 4 (.i 0)] [4] (.seq (.s [.e 8 0 3,
 .k 9 0 8,.I 10 .eql 9 4,.v 11 10,.ey 12 10 3 11,
 .ky 13 0 12 11,.Iy 14 .geq 13 0 11,
 .O 15 11 14] [8,9,10,11,12,13,14] (.cond (.T 15) [0] (.s [.e 16 10 3,
 .k 17 0 16,.v 4 17] [3,16,17] .ret) [] .skip)) (.s [.v 18 0,.e 19 5 3,
 .k 20 0 19,.p 21 125 18 20,.w 5 21] [18,19] (.seq (.s [.e 22 0 3,
 .k 23 0 22,.I 24 .eql 23 7] [22,23] (.cond (.T 24) [] (.s [.v 25 0,
 .A 26 0 11 3,.w 27 5,.c 28 128 [.t 25,.T 26,.T 27],.v 4 28] [0,3,25,28] .ret) [] .skip)) (.s [.v 29 0,.e 30 7 3,.A 31 0 3 30,.q 32 47 29 31,
 .v 6 32] [29,30,31,32] (.s [.v 33 0,.A 34 0 11 3,.w 35 5,
 .c 36 129 [.t 33,.T 34,.T 35],.G 7 1 [.i 0,.i 0,.i 0,.i 0,.i 0,.U],
 .Q 1 6 7 36] [3,33] (.s [.v 37 6,.e 38 1 7,.S 1 1 38 37] [37,38]
 (.s [.v 39 0,.A 40 1 6 7,.p 41 48 39 40] [0,7,39,41] (.s [
 .v 42 6,.v 4 42] [6,42] .ret))))))))) }
def oL:aH:={ eM:=107,mode:=.kg,aF:=2,aP:=1,dj:=[],results:=[.tmp 4 false],body:=
 (.s [.B 3 0 9 1,.m 4 (.b false)] [4] (.s [.m 5 (.i 1)] [] (.seq
 (.s [.e 6 0 3,.k 7 0 6] [6] (.block 0 (.s [
 .I 9 .eql 7 1,.v 8 9] [9] (.cond (.T 8) [0,5,7] (.g [.m 5 (.i 0)] []) []
 (.s [.I 11 .eql 7 4,.v 10 11] [11] (.cond (.T 10) [0,5,7] (.g [
 .m 5 (.i 2)] []) [] (.s [.I 13 .eql 7 7,.v 12 13] [13]
 (.cond (.T 12) [7] (.s [.v 14 0,.N 15 14,.E 16 5 15,.E 17 2 16,
 .D 18 17,.o 19 (.un .not) [.t 18]] [0,14,18] (.cond (.T 19) [5] (.g [.m 5 (.i 0)] []) []
 .skip)) [0] (.seq (.s [.I 21 .eql 7 2,.v 20 21] [21] (.cond (.t 20) [7] .skip [20] (.s [.I 22 .eql 7 3,.v 20 22] [22] (.cond (.t 20) [7] .skip [20] (.s [
 .I 23 .eql 7 5,.v 20 23] [23] (.cond (.t 20) [7] .skip [20] (.s [
 .I 24 .eql 7 6,.v 20 24] [24] (.cond (.t 20) [7] .skip [20] (.s [
 .I 25 .eql 7 8,.v 20 25] [25] (.cond (.t 20) [7] .skip [20] (.g [
 .I 26 .eql 7 9,.v 20 26] [7,26]))))))))))) (.cond (.T 20) [] .skip [3,5] (.s [
 .m 4 (.b false)] [] .ret))))))))))) (.seq (.s [.e 27 4 3,.k 28 0 27,
 .H 29 28,.v 30 5,.J 31 .neq 29 30] [5,27,29,30] (.cond (.T 31) [3] (.s [
 .m 4 (.b false)] [] .ret) [] .skip)) (.seq (.s [.e 32 0 3,.k 33 0 32,
 .I 34 .eql 33 4] [32,33] (.cond (.T 34) [] (.s [.e 35 4 3,
 .k 36 0 35,.Z 37 11 36 0,.E 38 0 37,.D 39 38,
 .I 40 .eql 39 5,.v 41 40,.ez 42 4 3 41,.kz 43 0 42 41,
 .z 44 (.indexAddr 11) [.T 43,.i 0] 41,.Ez 45 0 44 41,.Dz 46 45 41,
 .Iz 47 .eql 46 6 41,.P 48 41 47,
 .v 4 48] [3,35,39,40,41,42,43,44,45,46,47,48] .ret) [] .skip)) (.s [.e 49 0 3,
 .k 50 0 49,.I 51 .neq 50 9,.v 52 51,.ez 53 4 3 52,
 .kz 54 0 53 52,.z 55 (.indexAddr 11) [.T 54,.i 0] 52,.Ez 56 0 55 52,
 .Dz 57 56 52,.Iz 58 .eql 57 7 52,.P 59 52 58,
 .v 4 59] [3,49,50,51,52,53,54,55,56,57,58,59] .ret)))))) }
def Vr:aH:={ eM:=108,mode:=.kg,aF:=2,aP:=0,dj:=[],results:=[],body:=
 (.s [.v 4 0,.a 5 52 4] [4] (.cond (.T 5) [] (.g [.v 6 0,.v 7 1,
 .a 8 87 7,.N 9 6,.E 10 12 9,.R 2 10 8] [0,1,6,7,8]) [0,1] .skip)) }
def qy:bw:=
 (.seq (.s [.v 50 7,.e 51 5 3,.k 52 0 51,.H 53 52,
 .J 54 .lss 50 53,.v 55 54,.vy 56 0 55,.y 57 (.call 52) [.t 56] 55,
 .O 58 55 57] [50,51,53,54,55,56,57] (.w 58 [7] 0)) (.seq (.block 1 (.r [
 .e 61 5 6,.D 62 61,.v 63 0,.e 64 5 3,.k 65 0 64,
 .v 66 7,.X 67 11 65 66,.L 68 11 67,.p 69 110 63 68,.h 70 62,
 ⟨some 71,.lit 11 1 [.i 0,.i 0,.str [],.str [],.i 0,.U,.i 0,.i 0,.i 0,.i 0,.i 0] [0],[.const (.agg [.i 0,.i 0,.str [],.str [],.i 0,.U,.i 0,.i 0,.i 0,.i 0,.i 0])],none⟩,
 .o 72 (.jx 11 120) [.t 62,.T 71],.Y 73 11 72 70,.n (.store 11) [.T 73,.T 69],.e 74 5 6,
 .R 1 74 72] (some [(1,8),(9,8),(12,15),(100013,15),(1400013,15)]) [62,63,64,66,70,72])) (.g [.v 59 7,
 .I 60 .add 59 1,.v 7 60] [59,60])))
def oM:aH:={ eM:=109,mode:=.kg,aF:=2,aP:=2,dj:=[],results:=[.box 4 1 11 true],body:=
 (.s [.B 3 0 11 1,
 .o 4 (.bT 1 [.i 0,.i 0,.str [],.str [],.i 0,.U,.i 0,.i 0,.i 0,.i 0,.i 0]) []] [] (.s [.e 9 0 3,.k 10 0 9,.a 11 130 10,.v 5 11] [9,10,11] (.seq (.s [.v 12 5,.o 13 (.rU .eql) [.t 12,.const (.i (-2))],.v 14 13,.vz 15 5 14,
 .Iz 16 .geq 15 0 14,.vz 17 16 14,.ey 18 5 3 17,.ky 19 0 18 17,
 .Hy 20 19 17,.vy 21 5 17,.Jy 22 .neq 20 21 17,.z 23 .pick [.t 17,.t 22,.b false] 14,
 .P 24 14 23,.v 25 24,.ez 26 0 3 25,.kz 27 0 26 25,
 .Iz 28 .eql 27 2 25,.vz 29 28 25,.ey 30 1 3 29,.ky 31 0 30 29,
 .Iy 32 .neq 31 0 29,.z 33 .pick [.t 29,.t 32,.b false] 25,.vz 34 33 25,.ey 35 1 3 34,
 .ky 36 0 35 34,.Iy 37 .neq 36 1 34,.z 38 .pick [.t 34,.t 37,.b false] 25,
 .P 39 25 38] [5,12,13,14,15,16,17,18,19,20,21,22,23,24,25,26,27,28,29,30,31,32,33,34,35,36,37,38] (.cond (.T 39) []
 (.s [.v 40 0,.e 41 6 3,.k 42 0 41,
 .q 43 108 40 42] [0,3,40,41,42,43] (.s [
 .o 44 (.build [.i 0,.i 0,.str [],.str [],.i 0,.U,.i 0,.i 0,.i 0,.i 0,.i 0] []) [],
 .Q 1 11 4 44] [] .ret)) [] .skip)) (.s [.e 45 0 3,.k 46 0 45,
 .e 47 6 3,.k 48 0 47,
 .o 49 (.build [.i 0,.i 0,.str [],.str [],.i 0,.U,.i 0,.i 0,.i 0,.i 0,.i 0] [(0,1),(6,1)]) [.t 46,.t 48],
 .o 6 (.alloc [.i 0,.i 0,.str [],.str [],.i 0,.U,.i 0,.i 0,.i 0,.i 0,.i 0]) [],
 .n (.store 11) [.t 6,.T 49]] [45,46,47,48] (.seq (.s [.m 7 (.i 0)] [] (.block 0 (.loop qy))) (.seq (.s [.v 75 0,.a 76 52 75,.o 77 (.un .not) [.t 76]] [75,76] (.cond (.T 77) [0,3,6] (.s [
 .o 78 (.build [.i 0,.i 0,.str [],.str [],.i 0,.U,.i 0,.i 0,.i 0,.i 0,.i 0] []) [],
 .Q 1 11 4 78] [] .ret) [] .skip)) (.s [.m 8 (.b false)] [8] (.seq (.s [
 .e 79 0 3,.k 80 0 79,.I 81 .geq 80 12] [79,80] (.cond (.T 81) []
 (.g [.v 82 0,.q 83 131 82 6,.v 8 83] [82,83]) [] (.g [.v 84 0,
 .A 85 0 11 3,.c 86 132 [.t 84,.T 85,.t 6],.v 8 86] [84,86]))) (.seq (.s [.v 87 8,
 .o 88 (.un .not) [.t 87]] [8,87] (.cond (.T 88) [6] (.s [.v 89 0,.e 90 6 3,
 .k 91 0 90,.q 92 108 89 91] [0,3,89,90,91,92] (.s [
 .o 93 (.build [.i 0,.i 0,.str [],.str [],.i 0,.U,.i 0,.i 0,.i 0,.i 0,.i 0] []) [],
 .Q 1 11 4 93] [] .ret)) [0,3] .skip)) (.seq (.seq (.u6 6 5) (.g [.L 94 11 6,
 .Q 1 11 4 94] [])) .ret)))))))))) }
def Lh:aH:={ eM:=110,mode:=.kg,aF:=2,aP:=3,dj:=[],results:=[.box 4 1 11 true],body:=
 (.s [.B 3 0 11 1,
 .o 4 (.bT 1 [.i 0,.i 0,.str [],.str [],.i 0,.U,.i 0,.i 0,.i 0,.i 0,.i 0]) []] [] (.s [.v 6 0,.A 7 0 11 3,.p 8 109 6 7,
 .o 5 (.bT 2 [.i 0,.i 0,.str [],.str [],.i 0,.U,.i 0,.i 0,.i 0,.i 0,.i 0]) [],
 .Q 2 11 5 8] [6] (.seq (.s [.v 9 0,.a 10 52 9,.v 11 10,
 .ey 12 7 5 11,.y 13 (.fD 2 true 3 false) [.t 12] 11,.y 14 (.build [.i 0,.i 0,.i 0] []) [] 11,
 .y 15 (.qj (.flat [.int,.int,.int]) false) [.t 13,.t 14] 11,.O 16 11 15] [9,10,11,12,13,14,15] (.cond (.T 16) []
 (.g [.v 17 0,.e 18 6 3,.k 19 0 18,
 .q 20 108 17 19] [0,3,17,18,19,20]) [0,3] .skip)) (.s [.A 21 2 11 5,
 .Q 1 11 4 21] [5] .ret)))) }
end bu
