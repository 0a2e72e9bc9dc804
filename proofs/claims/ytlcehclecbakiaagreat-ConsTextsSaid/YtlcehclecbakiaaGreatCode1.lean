/- Part of a proof. -/
import Derived.Test.YtlcehclecbakiaaGreatA6

set_option maxRecDepth 100000
namespace Ax
@[simp]abbrev aC.v(d k:Nat):aC:=⟨some d,.move,[.tmp k false],none⟩
@[simp]abbrev aC.w(d k:Nat):aC:=⟨some d,.move,[.tmp k true],none⟩
@[simp]abbrev aC.e(d i k:Nat):aC:=⟨some d,.fieldAddr i,[.tmp k false],none⟩
@[simp]abbrev aC.E(d i k:Nat):aC:=⟨some d,.fieldAddr i,[.tmp k true],none⟩
@[simp]abbrev aC.k(d i k:Nat):aC:=⟨some d,.ak i false 1 false,[.tmp k false],none⟩
@[simp]abbrev aC.D(d k:Nat):aC:=⟨some d,.load false 1 false,[.tmp k true],none⟩
@[simp]abbrev aC.N(d k:Nat):aC:=⟨some d,.nilCheck,[.tmp k false],none⟩
@[simp]abbrev aC.I(d:Nat)(o:Go.BinOp)(k:Nat)(i:Int):aC:=⟨some d,.bT o,[.tmp k false,.const (.int .i64 i)],none⟩
@[simp]abbrev aC.J(d:Nat)(o:Go.BinOp)(k i:Nat):aC:=⟨some d,.bT o,[.tmp k false,.tmp i false],none⟩
@[simp]abbrev aC.A(d j n k:Nat):aC:=⟨some d,.ak j true n false,[.tmp k false],none⟩
@[simp]abbrev aC.S(j n k i:Nat):aC:=⟨none,.iW j n,[.tmp k false,.tmp i false],none⟩
@[simp]abbrev aC.Q(j n k i:Nat):aC:=⟨none,.iW j n,[.tmp k false,.tmp i true],none⟩
@[simp]abbrev aC.R(n k i:Nat):aC:=⟨none,.store n,[.tmp k true,.tmp i false],none⟩
@[simp]abbrev aC.X(d n k i:Nat):aC:=⟨some d,.indexAddr n,[.tmp k true,.tmp i false],none⟩
@[simp]abbrev aC.Y(d n k i:Nat):aC:=⟨some d,.indexAddr n,[.tmp k false,.tmp i false],none⟩
@[simp]abbrev aC.Z(d n k:Nat)(i:Int):aC:=⟨some d,.indexAddr n,[.tmp k true,.const (.int .i64 i)],none⟩
@[simp]abbrev aC.L(d n k:Nat):aC:=⟨some d,.load true n false,[.tmp k true],none⟩
@[simp]abbrev aC.H(d k:Nat):aC:=⟨some d,.len .sl,[.tmp k true],none⟩
@[simp]abbrev aC.h(d k:Nat):aC:=⟨some d,.len .sl,[.tmp k false],none⟩
@[simp]abbrev aC.x(d i k:Nat):aC:=⟨some d,.extract i,[.tmp k false],none⟩
@[simp]abbrev aC.u(d i k:Nat):aC:=⟨some d,.extract i,[.tmp k true],none⟩
@[simp]abbrev aC.B(d j n k:Nat):aC:=⟨some d,.zq j n,[.tmp k true],none⟩
@[simp]abbrev aC.O(d k i:Nat):aC:=⟨some d,.pick,[.tmp k false,.tmp i false,.const (.bool false)],none⟩
@[simp]abbrev aC.P(d k i:Nat):aC:=⟨some d,.pick,[.tmp k false,.const (.bool true),.tmp i false],none⟩
@[simp]abbrev aC.G(d j:Nat)(z:List AV):aC:=⟨some d,.cu j z,[],none⟩
@[simp]abbrev aC.a(d f k:Nat):aC:=⟨some d,.call f,[.tmp k false],none⟩
@[simp]abbrev aC.p(d f k i:Nat):aC:=⟨some d,.call f,[.tmp k false,.tmp i true],none⟩
@[simp]abbrev aC.q(d f k i:Nat):aC:=⟨some d,.call f,[.tmp k false,.tmp i false],none⟩
@[simp]abbrev aC.vy(d k g:Nat):aC:=⟨some d,.move,[.tmp k false],some (g,true)⟩
@[simp]abbrev aC.vz(d k g:Nat):aC:=⟨some d,.move,[.tmp k false],some (g,false)⟩
@[simp]abbrev aC.ey(d i k g:Nat):aC:=⟨some d,.fieldAddr i,[.tmp k false],some (g,true)⟩
@[simp]abbrev aC.ez(d i k g:Nat):aC:=⟨some d,.fieldAddr i,[.tmp k false],some (g,false)⟩
@[simp]abbrev aC.Ey(d i k g:Nat):aC:=⟨some d,.fieldAddr i,[.tmp k true],some (g,true)⟩
@[simp]abbrev aC.Ez(d i k g:Nat):aC:=⟨some d,.fieldAddr i,[.tmp k true],some (g,false)⟩
@[simp]abbrev aC.ky(d i k g:Nat):aC:=⟨some d,.ak i false 1 false,[.tmp k false],some (g,true)⟩
@[simp]abbrev aC.kz(d i k g:Nat):aC:=⟨some d,.ak i false 1 false,[.tmp k false],some (g,false)⟩
@[simp]abbrev aC.Dy(d k g:Nat):aC:=⟨some d,.load false 1 false,[.tmp k true],some (g,true)⟩
@[simp]abbrev aC.Dz(d k g:Nat):aC:=⟨some d,.load false 1 false,[.tmp k true],some (g,false)⟩
@[simp]abbrev aC.Hy(d k g:Nat):aC:=⟨some d,.len .sl,[.tmp k true],some (g,true)⟩
@[simp]abbrev aC.Hz(d k g:Nat):aC:=⟨some d,.len .sl,[.tmp k true],some (g,false)⟩
@[simp]abbrev aC.Iy(d:Nat)(o:Go.BinOp)(k:Nat)(i:Int)(g:Nat):aC:=⟨some d,.bT o,[.tmp k false,.const (.int .i64 i)],some (g,true)⟩
@[simp]abbrev aC.Iz(d:Nat)(o:Go.BinOp)(k:Nat)(i:Int)(g:Nat):aC:=⟨some d,.bT o,[.tmp k false,.const (.int .i64 i)],some (g,false)⟩
@[simp]abbrev aC.Jy(d:Nat)(o:Go.BinOp)(k i g:Nat):aC:=⟨some d,.bT o,[.tmp k false,.tmp i false],some (g,true)⟩
@[simp]abbrev aC.Jz(d:Nat)(o:Go.BinOp)(k i g:Nat):aC:=⟨some d,.bT o,[.tmp k false,.tmp i false],some (g,false)⟩
@[simp]abbrev aC.Xz(d n k i g:Nat):aC:=⟨some d,.indexAddr n,[.tmp k true,.tmp i false],some (g,false)⟩
@[simp]abbrev aC.Zy(d n k:Nat)(i:Int)(g:Nat):aC:=⟨some d,.indexAddr n,[.tmp k true,.const (.int .i64 i)],some (g,true)⟩
@[simp]abbrev aX.w(t:Nat)(c:List Nat)(x:Nat):aX:=.cond (.tmp t true) [] .skip c (.exit x)
@[simp]abbrev aX.s(l:List aC)(c:List Nat)(k:aX):aX:=.seq (.region l none c) k
end Ax
namespace aF
open Ax Go
def abE:aX:=
 (.seq (.s [.v 35 8,.e 36 2 5,.k 37 2 36,.H 38 37,
 .J 39 .lss 35 38] [35,36,38] (.w 39 [8] 0)) (.seq (.block 1 (.g [.w 42 7,
 .e 43 2 5,.k 44 2 43,.v 45 8,.X 46 7 44 45,.E 47 1 46,
 .D 48 47,.o 49 (.append 3 24) [.T 42,.T 48],.w 7 49] [43,45])) (.g [.v 40 8,
 .I 41 .add 40 1,.v 8 41] [40,41])))
def abF:aX:=
 (.seq (.s [.v 50 9,.e 51 2 5,.k 52 2 51,.H 53 52,
 .J 54 .lss 50 53] [50,51,53] (.w 54 [9] 2)) (.seq (.block 3 (.g [.w 57 7,
 .e 58 2 5,.k 59 2 58,.v 60 9,.X 61 7 59 60,.E 62 3 61,
 .L 63 3 62,.o 64 (.lit 3 1 [.i 0,.i 0,.i 0] [0]) [.t 63],.o 65 (.append 3 24) [.T 57,.T 64],
 .w 7 65] [58,60,63])) (.g [.v 55 9,.I 56 .add 55 1,.v 9 56] [55,56])))
def abG:aX:=
 (.seq (.s [.v 72 11,.v 73 10,.H 74 73,.J 75 .lss 72 74] [72,74] (.w 75 [11] 4)) (.seq (.block 5 (.s [.v 78 10,.v 79 11,.X 80 4 78 79,
 .L 81 4 80,.G 12 4 [.i 0,.i 0,.i 0,.i 0],.S 4 4 12 81] [79,81]
 (.seq (.s [.e 82 1 12,.k 83 4 82,.I 84 .lss 83 0,
 .v 85 84,.ez 86 1 12 85,.kz 87 4 86 85,.vz 88 7 85,.Hz 89 88 85,
 .Jz 90 .geq 87 89 85,.P 91 85 90,.v 92 91,.ez 93 2 12 92,
 .kz 94 4 93 92,.Iz 95 .lss 94 0 92,.P 96 92 95,
 .v 97 96,.vz 98 7 97,.ez 99 1 12 97,.kz 100 4 99 97,
 .Xz 101 3 98 100 97,.z 102 (.load true 3 false) [.T 101] 97,.z 103 (.call 17) [.t 102] 97,.z 104 (.un .not) [.t 103] 97,
 .P 105 97 104] [82,83,84,85,86,87,88,89,90,91,92,93,94,95,96,97,98,99,100,101,102,103,104]
 (.cond (.T 105) [5,7,10,11,12] (.s [.m 2 (.b false)] [] .ret) [] .skip)) (.s [.e 106 0 12,
 .k 107 4 106] [106] (.block 6 (.s [.I 109 .eql 107 1,
 .v 108 109] [109] (.cond (.T 108) [107] (.seq (.r [.e 110 2 12,.k 111 4 110,
 .e 112 3 5,.k 113 2 112,.H 114 113,.J 115 .geq 111 114,.v 116 115,
 .ez 117 3 5 116,.kz 118 2 117 116,.ez 119 2 12 116,
 .kz 120 4 119 116,.Xz 121 4 118 120 116,.Ez 122 1 121 116,
 .z 123 (.load true 3 false) [.T 122] 116,.vz 124 7 116,.ez 125 1 12 116,.kz 126 4 125 116,
 .Xz 127 3 124 126 116,.z 128 (.load true 3 false) [.T 127] 116,.z 129 (.lg (.flat [.int,.int,.int]) true) [.t 123,.t 128] 116,
 .P 130 116 129] (some []) [12,110,111,112,114,115,116,117,118,119,120,121,122,123,124,125,126,127,128,129])
 (.cond (.T 130) [5,7,10,11] (.s [.m 2 (.b false)] [] .ret) [] .skip)) [] (.s [
 .I 132 .eql 107 2,.v 131 132] [132] (.cond (.T 131) [107] (.seq (.r [.e 133 2 12,
 .k 134 4 133,.v 135 7,.H 136 135,.J 137 .geq 134 136,.v 138 137,
 .vz 139 7 138,.ez 140 1 12 138,.kz 141 4 140 138,.Xz 142 3 139 141 138,
 .z 143 (.load true 3 false) [.T 142] 138,.vz 144 7 138,.ez 145 2 12 138,.kz 146 4 145 138,
 .Xz 147 3 144 146 138,.z 148 (.load true 3 false) [.T 147] 138,.z 149 (.lg (.flat [.int,.int,.int]) true) [.t 143,.t 148] 138,
 .P 150 138 149] (some []) [12,133,134,136,137,138,139,140,141,142,143,144,145,146,147,148,149]) (.cond (.T 150) [5,7,10,11]
 (.s [.m 2 (.b false)] [] .ret) [] .skip)) [] (.seq (.s [.I 152 .eql 107 3,
 .v 151 152] [152] (.cond (.t 151) [107] .skip [151] (.g [.I 153 .eql 107 4,
 .v 151 153] [107,153]))) (.cond (.T 151) [] (.s [.e 154 2 12,.k 155 4 154,
 .v 156 7,.H 157 156,.J 158 .geq 155 157,.v 159 158,.vz 160 7 159,
 .ez 161 2 12 159,.kz 162 4 161 159,.Xz 163 3 160 162 159,
 .z 164 (.load true 3 false) [.T 163] 159,.z 165 (.call 17) [.t 164] 159,.z 166 (.un .not) [.t 165] 159,.P 167 159 166,
 .v 168 167,.ez 169 3 12 168,.kz 170 4 169 168,.Iz 171 .lss 170 0 168,
 .P 172 168 171,.v 173 172,.ez 174 3 12 173,.kz 175 4 174 173,
 .Iz 176 .geq 175 8 173,
 .P 177 173 176] [12,154,155,157,158,159,160,161,162,163,164,165,166,167,168,169,170,171,172,173,174,175,176]
 (.cond (.T 177) [5,7,10,11] (.s [.m 2 (.b false)] [] .ret) [] .skip)) [5,7,10,11,12] (.s [
 .m 2 (.b false)] [] .ret)))))))))))) (.g [.v 76 11,.I 77 .add 76 1,
 .v 11 77] [76,77])))
def s4:aA:={ eJ:=4,mode:=.pure,az:=1,aG:=5,dj:=[],results:=[.tmp 2 false],body:=
 (.s [.m 2 (.b false)] [2] (.s [.v 14 0,.a 15 15 14,.w 13 15,
 .x 16 0 13,.u 17 1 13,.G 3 0 [.U,.U,.U],.G 4 1 [.i 0,.i 0],
 .Q 0 3 3 16,.S 1 2 4 17] [14,17] (.seq (.s [.v 18 0,.o 19 (.len .str) [.t 18],
 .I 20 .gtr 19 4000,.v 21 20,.ez 22 0 4 21,.kz 23 1 22 21,
 .Iz 24 .neq 23 0 21,.P 25 21 24] [0,4,18,19,20,21,22,23,24] (.cond (.T 25) [3] (.s [.m 2 (.b true)] [] .ret) [] .skip)) (.s [.A 27 0 3 3,.c 28 16 [.T 27],
 .w 26 28,.x 29 0 26,.u 30 1 26,.G 5 2 [.U,.U,.U,.U,.i 0],
 .G 6 3 [.i 0,.i 0],.Q 2 5 5 29,.S 3 2 6 30] [3,30] (.seq (.s [
 .e 31 0 6,.k 32 3 31,.I 33 .neq 32 0] [6,31,32] (.cond (.T 33) [5] (.s [.c 34 14 [],.v 2 34] [34] .ret) [] .skip)) (.s [.o 7 .move [.const .U]] [] (.seq (.s [
 .m 8 (.i 0)] [] (.block 0 (.loop abE))) (.seq (.s [.m 9 (.i 0)] [] (.block 2
 (.loop abF))) (.s [.w 66 7,.e 67 1 5,.k 68 2 67,.o 69 (.append 3 24) [.T 66,.T 68],
 .w 7 69] [67] (.s [.A 70 2 5 5,.c 71 10 [.T 70],.w 10 71] [] (.seq (.s [.m 11 (.i 0)] [] (.block 4 (.loop abG))) (.s [.A 178 2 5 5,
 .c 179 12 [.T 178],.w 180 7,.H 181 180,.J 182 .eql 179 181,.v 183 182,
 .y 184 (.ak 2 true 5 false) [.t 5] 183,.y 185 (.call 18) [.T 184] 183,.O 186 183 185,.v 187 186,
 .y 188 .move [.T 10] 187,.y 189 (.ak 2 true 5 false) [.t 5] 187,.y 190 (.call 11) [.T 189] 187,.y 191 (.call 9) [.T 188,.T 190] 187,
 .O 192 187 191,.v 193 192,.y 194 (.call 14) [] 193,.O 195 193 194,
 .v 2 195] [5,10,179,181,182,183,184,185,186,187,188,189,190,191,192,193,194,195] .ret)))))))))))) }
def abH:aX:=
 (.seq (.s [.v 11 5,.v 12 0,.H 13 12,.o 14 (.bT .lss) [.T 11,.T 13]] [] (.w 14 [0,1,5] 0)) (.seq (.block 1 (.seq (.r [.v 17 0,.v 18 5,.o 19 (.indexAddr 4) [.T 17,.T 18],
 .L 20 4 19,.v 21 1,.v 22 5,.o 23 (.indexAddr 4) [.T 21,.T 22],.L 24 4 23,
 .o 25 (.lg (.flat [.int,.int,.int,.int]) true) [.T 20,.T 24]] (some []) []) (.cond (.T 25) [0,1,5] (.s [
 .m 4 (.b false)] [] .ret) [] .skip))) (.g [.w 15 5,.o 16 (.bT .add) [.T 15,.i 1],
 .w 5 16] [])))
def s9:aA:={ eJ:=9,mode:=.pure,az:=2,aG:=0,dj:=[],results:=[.tmp 4 false],body:=
 (.s [.m 4 (.b false)] [4] (.seq (.s [.v 6 0,.H 7 6,.v 8 1,
 .H 9 8,.o 10 (.bT .neq) [.T 7,.T 9]] [] (.cond (.T 10) [0,1] (.s [.m 4 (.b false)] [] .ret) []
 .skip)) (.seq (.s [.m 5 (.i 0)] [] (.block 0 (.loop abH))) (.s [
 .m 4 (.b true)] [] .ret)))) }
def UB:aX:=
 (.s [.J 39 .lss 38 37] [] (.seq (.w 39 [36,37,38] 2) (.seq (.block 3 (.s [
 .Y 40 6 36 38,.L 41 6 40,
 .G 7 2 [.i 0,.i 0,.i 0,.i 0,.i 0,.U],.Q 2 6 7 41] [] (.g [
 .v 42 3,.o 43 (.ak 2 true 6 false) [.T 7],.c 44 28 [.T 42,.T 43]] [44]))) (.g [
 .o 45 (.bT .add) [.T 38,.i 1],.w 38 45] []))))
def UC:aX:=
 (.s [.J 23 .lss 22 21] [] (.seq (.w 23 [20,21,22] 0) (.seq (.block 1 (.s [
 .v 24 22,.Y 25 7 20 22,.L 26 7 25,
 .G 5 1 [.i 0,.U,.bool false,.i 0,.i 0,.i 0,.U],.w 4 24,.Q 1 7 5 26] []
 (.seq (.r [.v 27 3,.v 28 3,.w 29 4,.A 30 1 7 5,.o 31 .nilCheck [.T 27],
 .E 32 8 31,.n (.store 1) [.T 32,.T 29],.o 33 .nilCheck [.T 28],.E 34 0 33,.n (.store 7) [.T 34,.T 30]] (some []) [])
 (.s [.E 35 6 5,.l 36 1 (.T 35),.h 37 36,.m 38 (.i 0)] []
 (.block 2 (.loop UB)))))) (.g [.o 46 (.bT .add) [.T 22,.i 1],.w 22 46] []))))
def s10:aA:={ eJ:=10,mode:=.pure,az:=1,aG:=3,dj:=[],results:=[.tmp 2 true],body:=
 (.s [.B 1 0 5 0,.o 2 .move [.const .U]] [2] (.seq (.s [.A 8 0 5 1,
 .c 9 25 [.T 8],.o 10 (.un .not) [.T 9]] [] (.cond (.T 10) [1] (.s [.o 2 .move [.const .U]] [] .ret) [] .skip)) (.seq
 (.r [.A 11 0 5 1,.c 12 26 [.T 11],.A 13 0 5 1,.c 14 27 [.T 13],
 .e 15 2 1,.l 16 0 (.T 15),
 .o 17 (.build [.i 0,.U,.bool false,.i 0,.i 0,.i 0,.U,.U,.i 0,.i 0,.U,.U] [(7,1),(9,1),(10,1)]) [.T 12,.T 14,.T 16],
 .o 18 (.box 12) [.T 17],.w 3 18] (some []) []) (.seq (.s [.E 19 2 1,.l 20 0 (.T 19),
 .h 21 20,.m 22 (.i 0)] [] (.block 0 (.loop UC))) (.s [.w 47 3,
 .o 48 .nilCheck [.T 47],.E 49 11 48,.D 50 49,.w 2 50] [] .ret))))) }
def s11:aA:={ eJ:=11,mode:=.pure,az:=1,aG:=1,dj:=[],results:=[.tmp 2 true],body:=
 (.s [.B 1 0 5 0,.o 2 .move [.const .U]] [2] (.seq (.s [.A 3 0 5 1,
 .c 4 18 [.T 3],.o 5 (.un .not) [.T 4]] [] (.cond (.T 5) [1] (.s [.o 2 .move [.const .U]] [] .ret) [] .skip)) (.s [.o 6 (.ak 0 true 5 false) [.T 1],.c 7 29 [.T 6],.w 2 7] [] .ret))) }
def s12:aA:={ eJ:=12,mode:=.pure,az:=1,aG:=1,dj:=[],results:=[.tmp 2 false],body:=
 (.s [.B 1 0 5 0,.m 2 (.i 0)] [2] (.seq (.s [.A 3 0 5 1,
 .c 4 25 [.T 3],.o 5 (.un .not) [.T 4]] [] (.cond (.T 5) [1] (.s [.m 2 (.i 0)] [] .ret) [] .skip)) (.seq
 (.r [.A 6 0 5 1,.c 7 27 [.T 6],.e 8 2 1,.l 9 0 (.T 8),
 .H 10 9,.o 11 (.bT .add) [.T 7,.T 10],.e 12 1 1,.l 13 0 (.T 12),.H 14 13,
 .o 15 (.bT .add) [.T 11,.T 14],.w 2 15] (some []) [1]) .ret))) }
def s14:aA:={ eJ:=14,mode:=.pure,az:=0,aG:=4,dj:=[],results:=[.tmp 0 false],body:=
 (.s [.m 0 (.b false)] [0] (.s [
 .c 7 15 [.const (.str [114,101,99,111,114,100,32,82,32,123,32,125,32,102,117,110,99,32,109,97,105,110,40,41,32,123,32,108,101,116,32,97,58,32,82,32,61,32,110,101,119,32,82,59,32,125])],
 .w 6 7,.x 8 0 6,.u 9 1 6,.G 1 0 [.U,.U,.U],
 .G 2 1 [.i 0,.i 0],.Q 0 3 1 8,.n (.iW 1 2) [.T 2,.T 9]] [] (.s [
 .o 11 (.ak 0 true 3 false) [.T 1],.c 12 16 [.T 11],.w 10 12,.x 13 0 10,.u 14 1 10,
 .G 3 2 [.U,.U,.U,.U,.i 0],.G 4 3 [.i 0,.i 0],.Q 2 5 3 13,
 .n (.iW 3 2) [.T 4,.T 14]] [] (.s [.A 15 2 5 3,.c 16 10 [.T 15],.w 5 16] [] (.s [.v 17 5,.H 18 17,.o 19 (.bT .eql) [.T 18,.i 2],.w 20 19,.vy 21 5 20,
 .Zy 22 4 21 0 20,.y 23 (.load true 4 false) [.T 22] 20,
 .y 24 (.build [.i 0,.i 0,.i 0,.i 0] [(0,1),(1,1)]) [.i 1,.i 1] 20,
 .y 25 (.lg (.flat [.int,.int,.int,.int]) false) [.T 23,.T 24] 20,.o 26 .pick [.T 20,.T 25,.b false],.w 27 26,.y 28 .move [.T 5] 27,
 .Zy 29 4 28 1 27,.y 30 (.load true 4 false) [.T 29] 27,
 .y 31 (.build [.i 0,.i 0,.i 0,.i 0] [(0,1),(1,1),(2,1)]) [.i 2,.i 0,.i 1] 27,
 .y 32 (.lg (.flat [.int,.int,.int,.int]) false) [.T 30,.T 31] 27,.o 33 .pick [.T 27,.T 32,.b false],.w 34 33,
 .y 35 (.ak 2 true 5 false) [.t 3] 34,.y 36 (.call 12) [.T 35] 34,.y 37 (.bT .eql) [.T 36,.i 3] 34,
 .o 38 .pick [.T 34,.T 37,.b false],.w 39 38,.y 40 (.ak 2 true 5 false) [.T 3] 39,
 .y 41 (.call 21) [.T 40,.i 0] 39,.y 42 (.bT .eql) [.T 41,.i 2] 39,.o 43 .pick [.T 39,.T 42,.b false],
 .w 0 43] [3,5,21,22,23,24,28,29,30,31,35,36,40,41] .ret))))) }
def UD:aX:=
 (.seq (.s [.v 21 6,.a 22 32 21,.v 23 22,.vy 24 6 23,.y 25 (.call 33) [.t 24] 23,
 .y 26 (.field 0 1 false) [.t 25] 23,.Iy 27 .neq 26 0 23,
 .O 28 23 27] [21,22,23,24,25,26,27] (.w 28 [] 0)) (.block 1 (.block 2 (.seq (.s [
 .v 32 6,.c 33 34 [.t 32,.const (.str [114,101,99,111,114,100])],.v 34 33,.ey 35 0 7 34,
 .ky 36 3 35 34,.Hy 37 36 34,.Iy 38 .eql 37 12 34,
 .O 39 34 38,.v 31 39] [32,33,34,35,36,37,38,39] (.cond (.t 31) [] .skip [31] (.s [
 .v 40 6,.c 41 34 [.t 40,.const (.str [103,108,111,98,97,108])],.v 42 41,.ey 43 1 7 42,
 .ky 44 3 43 42,.Hy 45 44 42,.Iy 46 .eql 45 8 42,
 .O 47 42 46,.v 31 47] [40,41,42,43,44,45,46,47] (.cond (.t 31) [] .skip [31] (.g [
 .v 48 6,.c 49 34 [.t 48,.const (.str [102,117,110,99])],.v 50 49,.ey 51 2 7 50,
 .ky 52 3 51 50,.Hy 53 52 50,.Iy 54 .eql 53 16 50,
 .O 55 50 54,.v 31 55] [48,49,50,51,52,53,54,55]))))) (.cond (.T 31) [] (.g [.v 56 6,
 .c 57 35 [.t 56,.i 4]] [56,57]) [] (.s [.v 59 6,
 .c 60 34 [.t 59,.const (.str [114,101,99,111,114,100])],.v 58 60] [59,60] (.cond (.T 58) [] (.s [.v 61 6,
 .N 62 61,.E 63 1 62,.D 64 63,.I 65 .add 64 1,
 .N 66 61,.E 67 1 66,.R 1 67 65] [61,64,65] (.r [.e 68 0 7,
 .o 69 (.ak 3 false 1 true) [.t 68],.v 70 6,.a 71 36 70,.o 72 (.lit 3 1 [.str [],.U,.i 0] [0]) [.T 71],
 .o 73 (.append 3 48) [.T 69,.T 72],.e 74 0 7,.Q 3 1 74 73] (some []) [68,70,74])) [] (.s [
 .v 76 6,.c 77 34 [.t 76,.const (.str [103,108,111,98,97,108])],.v 75 77] [76,77] (.cond (.T 75) [] (.s [
 .v 78 6,.N 79 78,.E 80 1 79,.D 81 80,
 .I 82 .add 81 1,.N 83 78,.E 84 1 83,.R 1 84 82] [78,81,82] (.seq
 (.r [.e 85 1 7,.o 86 (.ak 3 false 1 true) [.t 85],.v 87 6,.a 88 37 87,
 .o 89 (.lit 4 1 [.str [],.str [],.i 0,.i 0] [0]) [.t 88],.o 90 (.append 4 48) [.T 86,.T 89],.e 91 1 7,
 .Q 3 1 91 90] (some []) [85,87,88,91]) (.g [.v 92 6,.c 93 38 [.t 92,.const (.str [59])]] [92,93]))) [] (.s [.v 95 6,.c 96 34 [.t 95,.const (.str [102,117,110,99])],.v 94 96] [95,96] (.cond (.T 94) [] (.s [
 .v 97 6,.N 98 97,.E 99 1 98,.D 100 99,
 .I 101 .add 100 1,.N 102 97,.E 103 1 102,.R 1 103 101] [97,100,101]
 (.r [.e 104 2 7,.o 105 (.ak 3 false 1 true) [.t 104],.v 106 6,.a 107 39 106,
 .o 108 (.lit 7 1 [.str [],.U,.bool false,.str [],.i 0,.U,.i 0] [0]) [.T 107],.o 109 (.append 7 104) [.T 105,.T 108],
 .e 110 2 7,.Q 3 1 110 109] (some []) [104,106,110])) [] (.g [.v 29 6,
 .c 30 35 [.t 29,.i 2]] [29,30]))))))))))))
def wH:aA:={ eJ:=15,mode:=.pure,az:=1,aG:=4,dj:=[],results:=[.box 2 0 3 true,.box 3 1 2 true],body:=
 (.s [.G 2 0 [.U,.U,.U],.G 3 1 [.i 0,.i 0]] [] (.s [.v 9 0,
 .a 10 31 9,.w 8 10,.x 11 0 8,.u 12 1 8,.G 5 2 [.i 0,.i 0],
 .w 4 11,.S 2 2 5 12] [0,9,12] (.seq (.s [.e 13 0 5,.k 14 2 13,
 .I 15 .neq 14 0] [13,14] (.cond (.T 15) [4] (.seq (.r [.o 16 (.build [.U,.U,.U] []) [],
 .A 17 2 2 5,.Q 0 3 2 16,.S 1 2 3 17] (some []) [5,17]) .ret) [5] .skip)) (.s [
 .w 18 4,.o 19 (.build [.U,.i 0,.i 0,.i 0,.i 0] [(0,1)]) [.T 18],.o 20 (.box 5) [.T 19],
 .v 6 20] [20] (.s [.G 7 3 [.U,.U,.U]] [] (.seq (.block 0 (.loop UD)) (.seq (.s [
 .v 111 6,.a 112 32 111,.o 113 (.un .not) [.t 112]] [111,112] (.cond (.T 113) [7] (.seq (.r [
 .o 114 (.build [.U,.U,.U] []) [],.v 115 6,.N 116 115,.E 117 3 116,
 .L 118 2 117,.Q 0 3 2 114,.S 1 2 3 118] (some []) [6,115,118]) .ret) [6] .skip)) (.s [.A 119 3 3 7,.o 120 (.build [.i 0,.i 0] []) [],.Q 0 3 2 119,
 .S 1 2 3 120] [7,120] .ret)))))))) }
def UE:aX:=
 (.seq (.s [.v 42 7,.e 43 0 4,.e 44 1 43,.k 45 3 44,
 .H 46 45,.J 47 .lss 42 46] [42,43,44,46] (.w 47 [7] 0)) (.seq (.block 1 (.r [
 .e 50 1 6,.o 51 (.ak 5 false 1 true) [.t 50],.e 52 0 4,.e 53 1 52,
 .k 54 3 53,.v 55 7,.X 56 4 54 55,.E 57 1 56,
 .L 58 3 57,.o 59 (.lit 3 1 [.i 0,.i 0,.i 0] [0]) [.t 58],.o 60 (.append 3 24) [.T 51,.T 59],
 .e 61 1 6,.Q 5 1 61 60] (some []) [50,52,53,55,58,61])) (.g [.v 48 7,
 .I 49 .add 48 1,.v 7 49] [48,49])))
def UF:aX:=
 (.seq (.s [.v 92 13,.e 93 0 10,.k 94 6 93,.H 95 94,
 .J 96 .lss 92 95] [92,93,95] (.w 96 [13] 4)) (.seq (.block 5 (.g [.v 99 12,
 .e 100 0 10,.k 101 6 100,.v 102 13,.X 103 4 101 102,
 .E 104 1 103,.L 105 3 104,.q 106 43 99 105] [99,100,102,105,106])) (.g [
 .v 97 13,.I 98 .add 97 1,.v 13 98] [97,98])))
def UG:aX:=
 (.seq (.s [.v 62 9,.e 63 4 4,.k 64 3 63,.H 65 64,
 .J 66 .lss 62 65] [62,63,65] (.w 66 [4,8,9] 2)) (.seq (.block 3 (.s [.e 69 4 4,
 .k 70 3 69,.v 71 9,.X 72 3 70 71,.L 73 3 72,
 .G 10 6 [.U,.U,.i 0],.Q 6 3 10 73] [69,71] (.s [.e 74 0 4,
 .e 75 2 74,.k 76 3 75,.v 77 9,.X 78 6 76 77,
 .L 79 6 78,.o 11 (.cu 7 [.str [],.U,.bool false,.i 0,.i 0,.i 0]) [],
 .Q 7 6 11 79] [74,75,77] (.s [.o 80 (.ak 5 true 5 true) [.t 6],.v 81 9,.e 82 1 11,
 .k 83 7 82,.H 84 83,.e 85 2 11,.k 86 7 85,
 .e 87 3 11,.A 88 7 3 87,
 .o 89 (.build [.i 0,.U,.bool false,.i 0,.i 0,.i 0,.U] [(0,1),(2,1),(3,3)]) [.t 84,.t 86,.t 88],
 .o 90 (.build [.U,.U,.U,.U,.i 0,.i 0,.i 0,.U,.bool false,.i 0,.i 0,.i 0,.U] [(0,5),(5,1),(6,7)]) [.T 80,.t 81,.T 89],
 .o 91 (.box 13) [.T 90],.v 12 91] [11,81,82,84,85,86,87,88,91] (.seq (.s [.m 13 (.i 0)] [] (.block 4
 (.loop UF))) (.s [.v 107 12,.e 108 1 10,.k 109 6 108,
 .p 110 44 107 109] [107,108,110] (.s [.v 111 12,.a 112 45 111] [111,112] (.s [
 .v 113 12,.N 114 113,.E 115 0 114,.o 116 (.load true 5 true) [.T 115],
 .Q 5 5 6 116] [113] (.seq (.seq (.wJ 12 12) (.r [.e 117 2 6,.o 118 (.ak 5 false 1 true) [.t 117],
 .v 119 12,.N 120 119,.E 121 6 120,.L 122 7 121,
 .o 123 (.lit 7 1 [.i 0,.U,.bool false,.i 0,.i 0,.i 0,.U] [0]) [.T 122],.o 124 (.append 7 88) [.T 118,.T 123],
 .e 125 2 6,.Q 5 1 125 124] (some []) [117,119,125])) (.s [.v 126 8,.v 127 12,
 .N 128 127,.E 129 6 128,.E 130 6 129,.D 131 130,.H 132 131,
 .J 133 .add 126 132,.v 8 133] [126,127,132,133] (.s [.v 134 8,
 .I 135 .gtr 134 2500,.v 136 135,.ez 137 3 6 136,.kz 138 5 137 136,
 .Hz 139 138 136,.Iz 140 .gtr 139 60 136,.P 141 136 140,
 .v 142 141,.vz 143 12 142,.z 144 .nilCheck [.t 143] 142,.Ez 145 6 144 142,.Ez 146 1 145 142,
 .Dz 147 146 142,.Hz 148 147 142,.Iz 149 .gtr 148 4000 142,
 .P 150 142 149] [12,134,135,136,137,138,139,140,141,142,143,144,145,146,147,148,149] (.cond (.T 150) [4,6,8,9] (.seq
 (.r [.o 151 (.build [.U,.U,.U,.U,.i 0] []) [],.e 152 2 10,.k 153 6 152,
 .o 154 (.build [.i 0,.i 0] [(0,1),(1,1)]) [.i 4,.t 153],.Q 1 5 2 151,
 .S 2 2 3 154] (some []) [10,152,153,154]) .ret) [10] .skip)))))))))))) (.g [.v 67 9,
 .I 68 .add 67 1,.v 9 68] [67,68])))
def s16:aA:={ eJ:=16,mode:=.pure,az:=1,aG:=8,dj:=[],results:=[.box 2 1 5 true,.box 3 2 2 true],body:=
 (.s [.B 1 0 3 0,.G 2 1 [.U,.U,.U,.U,.i 0],
 .G 3 2 [.i 0,.i 0]] [] (.s [.A 15 0 3 1,.c 16 40 [.T 15],.w 14 16,
 .x 17 0 14,.u 18 1 14,.G 4 3 [.U,.U,.U,.i 0,.U],
 .G 5 4 [.i 0,.i 0],.Q 3 5 4 17,.S 4 2 5 18] [18] (.seq (.s [
 .e 19 0 5,.k 20 4 19,.I 21 .neq 20 0] [19,20] (.cond (.T 21) [1,4] (.seq
 (.r [.o 22 (.build [.U,.U,.U,.U,.i 0] []) [],.A 23 4 2 5,.Q 1 5 2 22,
 .S 2 2 3 23] (some []) [5,23]) .ret) [] .skip)) (.s [.A 24 0 3 1,.c 25 41 [.T 24],
 .S 4 2 5 25] [25] (.seq (.s [.e 26 0 5,.k 27 4 26,
 .I 28 .neq 27 0] [26,27] (.cond (.T 28) [1,4] (.seq (.r [
 .o 29 (.build [.U,.U,.U,.U,.i 0] []) [],.A 30 4 2 5,.Q 1 5 2 29,
 .S 2 2 3 30] (some []) [5,30]) .ret) [5] .skip)) (.seq (.s [.A 31 0 3 1,
 .c 32 42 [.T 31]] [1] (.cond (.T 32) [4] (.s [.o 33 (.build [.U,.U,.U,.U,.i 0] []) [],
 .o 34 (.build [.i 0,.i 0] [(0,1)]) [.i 4],.Q 1 5 2 33,.S 2 2 3 34] [34] .ret) []
 .skip)) (.s [.e 35 0 4,.e 36 0 35,.k 37 3 36,.e 38 0 4,
 .e 39 3 38,.k 40 3 39,.o 41 (.build [.U,.U,.U,.U,.i 0] [(0,1),(4,1)]) [.T 37,.t 40],
 .G 6 5 [.U,.U,.U,.U,.i 0],.Q 5 5 6 41] [35,36,38,39,40] (.seq (.s [
 .m 7 (.i 0)] [] (.block 0 (.loop UE))) (.s [.m 8 (.i 0)] [] (.seq (.s [
 .m 9 (.i 0)] [] (.block 2 (.loop UG))) (.s [.A 155 5 5 6,
 .o 156 (.build [.i 0,.i 0] []) [],.Q 1 5 2 155,.S 2 2 3 156] [6,156] .ret))))))))))) }
def s17:aA:={ eJ:=17,mode:=.pure,az:=1,aG:=1,dj:=[],results:=[.tmp 2 false],body:=
 (.s [.o 1 (.zq 0 3) [.t 0],.m 2 (.b false)] [0,2] (.s [.e 3 0 1,
 .k 4 0 3,.I 5 .eql 4 3,.v 6 5,.ez 7 2 1 6,
 .kz 8 0 7 6,.Iz 9 .gtr 8 0 6,.P 10 6 9,
 .v 2 10] [1,3,4,5,6,7,8,9,10] .ret)) }
def UH:aX:=
 (.seq (.s [.v 66 5,.v 67 4,.H 68 67,.o 69 (.bT .lss) [.T 66,.T 68]] [] (.w 69 [4,5] 2)) (.seq (.block 3 (.seq (.r [.A 72 0 5 1,.v 73 4,.v 74 5,
 .o 75 (.indexAddr 4) [.T 73,.T 74],.E 76 1 75,.L 77 3 76,.c 78 47 [.T 72,.T 77],
 .o 79 (.un .not) [.T 78]] (some []) []) (.cond (.T 79) [1,3,4,5] (.s [.m 2 (.b false)] [] .ret) [] .skip))) (.g [
 .w 70 5,.o 71 (.bT .add) [.T 70,.i 1],.w 5 71] [])))
def UI:aX:=
 (.seq (.s [.v 50 3,.e 51 0 1,.l 52 0 (.T 51),.H 53 52,
 .o 54 (.bT .lss) [.T 50,.T 53]] [] (.w 54 [3] 0)) (.seq (.block 1 (.s [.e 57 0 1,
 .l 58 0 (.T 57),.v 59 3,.o 60 (.indexAddr 2) [.T 58,.T 59],.E 61 1 60,
 .D 62 61,.w 4 62] [] (.seq (.s [.v 63 4,.H 64 63,
 .o 65 (.bT .gtr) [.T 64,.i 8]] [] (.cond (.T 65) [1,3,4] (.s [.m 2 (.b false)] [] .ret) [] .skip))
 (.s [.m 5 (.i 0)] [] (.block 2 (.loop UH)))))) (.g [.w 55 3,
 .o 56 (.bT .add) [.T 55,.i 1],.w 3 56] [])))
def UJ:aX:=
 (.seq (.s [.v 80 6,.e 81 3 1,.l 82 0 (.T 81),.H 83 82,
 .o 84 (.bT .lss) [.T 80,.T 83]] [] (.w 84 [6] 4)) (.seq (.block 5 (.s [.e 87 3 1,
 .l 88 0 (.T 87),.v 89 6,.o 90 (.indexAddr 4) [.T 88,.T 89],.L 91 4 90,
 .G 7 1 [.i 0,.i 0,.i 0,.i 0],.Q 1 4 7 91] [] (.s [.e 92 0 7,
 .l 93 1 (.T 92),.o 94 (.bT .lss) [.T 93,.i 0],.w 95 94,.ez 96 0 7 95,
 .z 97 (.ak 1 false 1 false) [.T 96] 95,.ez 98 2 1 95,.z 99 (.ak 0 false 1 false) [.T 98] 95,.Hz 100 99 95,
 .z 101 (.bT .geq) [.T 97,.T 100] 95,.o 102 .pick [.T 95,.b true,.T 101],.w 103 102,.z 104 (.ak 0 true 5 false) [.t 1] 103,
 .ez 105 1 7 103,.z 106 (.ak 1 true 3 false) [.T 105] 103,.z 107 (.call 47) [.T 104,.T 106] 103,.z 108 (.un .not) [.T 107] 103,
 .o 109 .pick [.T 103,.b true,.T 108],.w 110 109,.Ez 111 1 7 110,.z 112 (.ak 1 true 3 false) [.T 111] 110,
 .z 113 (.call 17) [.T 112] 110,.z 114 (.un .not) [.T 113] 110,
 .o 115 .pick [.T 110,.b true,.T 114]] [7,96,97,98,99,100,104,105,106,107,111,112,113] (.cond (.T 115) [1,6] (.s [
 .m 2 (.b false)] [] .ret) [] .skip)))) (.g [.w 85 6,.o 86 (.bT .add) [.T 85,.i 1],
 .w 6 86] [])))
def UK:aX:=
 (.seq (.s [.v 116 9,.e 117 2 1,.l 118 0 (.T 117),.H 119 118,
 .o 120 (.bT .lss) [.T 116,.T 119]] [] (.w 120 [8,9] 6)) (.seq (.block 7 (.s [.e 123 2 1,
 .l 124 0 (.T 123),.v 125 9,.o 126 (.indexAddr 7) [.T 124,.T 125],.L 127 7 126,
 .G 10 2 [.i 0,.U,.bool false,.i 0,.i 0,.i 0,.U],.Q 2 7 10 127] [] (.s [
 .w 128 8,.e 129 6 10,.l 130 2 (.T 129),.H 131 130,.o 132 (.bT .add) [.T 128,.T 131],
 .w 8 132] [] (.seq (.s [.e 133 1 10,.l 134 2 (.T 133),.H 135 134,
 .o 136 (.bT .gtr) [.T 135,.i 4000],.w 137 136,.ez 138 0 10 137,.z 139 (.ak 2 false 1 false) [.T 138] 137,
 .z 140 (.bT .lss) [.T 139,.i 0] 137,.o 141 .pick [.T 137,.b true,.T 140],.w 142 141,
 .ez 143 0 10 142,.z 144 (.ak 2 false 1 false) [.T 143] 142,.z 145 (.bT .gtr) [.T 144,.i 6] 142,
 .o 146 .pick [.T 142,.b true,.T 145],.w 147 146,.ez 148 0 10 147,.z 149 (.ak 2 false 1 false) [.T 148] 147,
 .ez 150 1 10 147,.z 151 (.ak 2 false 1 false) [.T 150] 147,.Hz 152 151 147,.z 153 (.bT .gtr) [.T 149,.T 152] 147,
 .o 154 .pick [.T 147,.b true,.T 153],.w 155 154,.z 156 (.ak 0 true 5 false) [.t 1] 155,.ez 157 1 10 155,
 .z 158 (.ak 2 false 1 false) [.T 157] 155,.z 159 (.call 46) [.T 156,.T 158] 155,.z 160 (.un .not) [.T 159] 155,
 .o 161 .pick [.T 155,.b true,.T 160],.w 162 161,.ez 163 6 10 162,.z 164 (.ak 2 false 1 false) [.T 163] 162,
 .Hz 165 164 162,.z 166 (.bT .lss) [.T 165,.i 1] 162,.o 167 .pick [.T 162,.b true,.T 166],.w 168 167,
 .vz 169 8 168,.z 170 (.bT .gtr) [.T 169,.i 2500] 168,
 .o 171 .pick [.T 168,.b true,.T 170]] [138,139,143,144,148,149,150,151,152,156,157,158,159,163,164,165,169] (.cond (.T 171) [1,8,9,10] (.s [.m 2 (.b false)] [] .ret) [] .skip)) (.s [.e 172 2 10,
 .l 173 2 (.T 172),.w 174 173,.y 175 (.ak 0 true 5 false) [.t 1] 174,.ey 176 3 10 174,
 .y 177 (.ak 2 true 3 false) [.T 176] 174,.y 178 (.call 47) [.T 175,.T 177] 174,.y 179 (.un .not) [.T 178] 174,
 .o 180 .pick [.T 174,.T 179,.b false],.w 181 180,.ez 182 2 10 181,.z 183 (.ak 2 false 1 false) [.T 182] 181,
 .z 184 (.un .not) [.T 183] 181,.z 185 .move [.T 184] 181,.Ey 186 3 10 185,.y 187 (.ak 2 true 3 false) [.T 186] 185,
 .y 188 (.build [.i 0,.i 0,.i 0] []) [] 185,.y 189 (.lg (.flat [.int,.int,.int]) true) [.T 187,.T 188] 185,
 .z 190 .pick [.T 185,.T 189,.b false] 181,
 .o 191 .pick [.T 181,.b true,.T 190]] [10,175,176,177,178,182,183,184,185,186,187,188,189] (.cond (.T 191) [1,8,9] (.s [
 .m 2 (.b false)] [] .ret) [] .skip)))))) (.g [.w 121 9,.o 122 (.bT .add) [.T 121,.i 1],
 .w 9 122] [])))
def UL:aX:=
 (.seq (.s [.v 205 13,.v 206 12,.H 207 206,.o 208 (.bT .lss) [.T 205,.T 207]] [] (.w 208 [13] 10)) (.seq (.block 11 (.seq (.r [.A 211 0 5 1,.v 212 11,.v 213 12,
 .v 214 13,.o 215 (.indexAddr 6) [.T 213,.T 214],.L 216 6 215,.c 217 48 [.T 211,.T 212,.T 216],
 .o 218 (.un .not) [.T 217]] (some []) []) (.cond (.T 218) [1,11,12,13] (.s [.m 2 (.b false)] [] .ret) [] .skip)))
 (.g [.w 209 13,.o 210 (.bT .add) [.T 209,.i 1],.w 13 210] [])))
def UM:aX:=
 (.seq (.s [.v 192 11,.e 193 2 1,.l 194 0 (.T 193),.H 195 194,
 .o 196 (.bT .lss) [.T 192,.T 195]] [] (.w 196 [11] 8)) (.seq (.block 9 (.s [.e 199 2 1,
 .l 200 0 (.T 199),.v 201 11,.o 202 (.indexAddr 7) [.T 200,.T 201],.E 203 6 202,
 .D 204 203,.w 12 204] [] (.seq (.s [.m 13 (.i 0)] [] (.block 10
 (.loop UL))) (.s [.v 219 12,.w 220 12,.H 221 220,.o 222 (.bT .sub) [.T 221,.i 1],
 .o 223 (.indexAddr 6) [.T 219,.T 222],.E 224 0 223,.D 225 224,.w 14 225] [] (.s [
 .v 226 14,.o 227 (.bT .neq) [.T 226,.i 16],.w 228 227,.vy 229 14 228,
 .y 230 (.bT .neq) [.T 229,.i 17] 228,.o 231 .pick [.T 228,.T 230,.b false],.w 232 231,.y 233 .move [.T 14] 232,
 .y 234 (.bT .neq) [.T 233,.i 18] 232,.o 235 .pick [.T 232,.T 234,.b false]] [14,229,233] (.cond (.T 235) [1,11] (.s [.m 2 (.b false)] [] .ret) [] .skip)))))) (.g [.w 197 11,.o 198 (.bT .add) [.T 197,.i 1],
 .w 11 198] [])))
def Zz:aA:={ eJ:=18,mode:=.pure,az:=1,aG:=3,dj:=[],results:=[.tmp 2 false],body:=
 (.s [.B 1 0 5 0,.m 2 (.b false)] [2] (.seq (.s [.e 15 0 1,
 .l 16 0 (.T 15),.H 17 16,.o 18 (.bT .gtr) [.T 17,.i 12],.w 19 18,
 .ez 20 1 1 19,.z 21 (.ak 0 false 1 false) [.T 20] 19,.Hz 22 21 19,.z 23 (.bT .gtr) [.T 22,.i 8] 19,
 .o 24 .pick [.T 19,.b true,.T 23],.w 25 24,.ez 26 2 1 25,.z 27 (.ak 0 false 1 false) [.T 26] 25,
 .Hz 28 27 25,.z 29 (.bT .lss) [.T 28,.i 1] 25,.o 30 .pick [.T 25,.b true,.T 29],.w 31 30,
 .ez 32 2 1 31,.z 33 (.ak 0 false 1 false) [.T 32] 31,.Hz 34 33 31,.z 35 (.bT .gtr) [.T 34,.i 16] 31,
 .o 36 .pick [.T 31,.b true,.T 35],.w 37 36,.ez 38 3 1 37,.z 39 (.ak 0 false 1 false) [.T 38] 37,
 .Hz 40 39 37,.z 41 (.bT .gtr) [.T 40,.i 60] 37,.o 42 .pick [.T 37,.b true,.T 41],.w 43 42,
 .z 44 (.ak 0 true 5 false) [.t 1] 43,.ez 45 1 1 43,.z 46 (.ak 0 false 1 false) [.T 45] 43,.z 47 (.call 46) [.T 44,.T 46] 43,
 .z 48 (.un .not) [.T 47] 43,.o 49 .pick [.T 43,.b true,.T 48]] [20,21,22,26,27,28,32,33,34,38,39,40,44,45,46,47] (.cond (.T 49) [1] (.s [.m 2 (.b false)] [] .ret) [] .skip)) (.seq (.s [.m 3 (.i 0)] [] (.block 0
 (.loop UI))) (.seq (.s [.m 6 (.i 0)] [] (.block 4 (.loop UJ))) (.s [
 .m 8 (.i 0)] [] (.seq (.s [.m 9 (.i 0)] [] (.block 6 (.loop UK))) (.seq (.s [.m 11 (.i 0)] [] (.block 8 (.loop UM))) (.s [.e 236 4 1,
 .l 237 0 (.T 236),.o 238 (.bT .geq) [.T 237,.i 0],.w 239 238,.ey 240 4 1 239,
 .y 241 (.ak 0 false 1 false) [.T 240] 239,.ey 242 2 1 239,.y 243 (.ak 0 false 1 false) [.T 242] 239,.Hy 244 243 239,
 .y 245 (.bT .lss) [.T 241,.T 244] 239,.o 246 .pick [.T 239,.T 245,.b false],.w 247 246,.ey 248 2 1 247,
 .y 249 (.ak 0 false 1 false) [.T 248] 247,.ey 250 4 1 247,.y 251 (.ak 0 false 1 false) [.T 250] 247,
 .y 252 (.indexAddr 7) [.T 249,.T 251] 247,.Ey 253 0 252 247,.Dy 254 253 247,
 .y 255 (.bT .eql) [.T 254,.i 0] 247,.o 256 .pick [.T 247,.T 255,.b false],.w 257 256,
 .ey 258 2 1 257,.y 259 (.ak 0 false 1 false) [.T 258] 257,.Ey 260 4 1 257,
 .y 261 (.ak 0 false 1 false) [.T 260] 257,.y 262 (.indexAddr 7) [.T 259,.T 261] 257,.Ey 263 2 262 257,
 .Dy 264 263 257,.y 265 (.un .not) [.T 264] 257,.o 266 .pick [.T 257,.T 265,.b false],
 .w 2 266] [1,240,241,242,243,244,248,249,250,251,252,253,254,258,259,260,261,262,263,264] .ret)))))))) }
def s21:aA:={ eJ:=21,mode:=.pure,az:=2,aG:=1,dj:=[],results:=[.tmp 4 false],body:=
 (.s [.B 2 0 5 0,.m 4 (.i 0)] [4] (.seq (.s [.A 5 0 5 2,
 .c 6 25 [.T 5],.o 7 (.un .not) [.T 6],.w 8 7,.vz 9 1 8,.z 10 (.bT .lss) [.T 9,.i 0] 8,
 .o 11 .pick [.T 8,.b true,.T 10],.w 12 11,.vz 13 1 12,.ez 14 2 2 12,
 .z 15 (.ak 0 false 1 false) [.T 14] 12,.Hz 16 15 12,.z 17 (.bT .geq) [.T 13,.T 16] 12,
 .o 18 .pick [.T 12,.b true,.T 17]] [9,13,14,15,16] (.cond (.T 18) [1,2] (.s [.o 4 .move [.const (.i (-1))]] []
 .ret) [] .skip)) (.s [.o 19 (.ak 0 true 5 false) [.T 2],.c 20 27 [.T 19],.w 21 1,.o 22 (.bT .add) [.T 20,.T 21],
 .w 4 22] [] .ret))) }
def Nt:aA:={ eJ:=25,mode:=.pure,az:=1,aG:=2,dj:=[],results:=[.tmp 2 false],body:=
 (.s [.B 1 0 5 0,.m 2 (.b false)] [2] (.seq (.s [.e 4 0 1,
 .l 5 0 (.T 4),.H 6 5,.o 7 (.bT .gtr) [.T 6,.i 12],.w 8 7,.ez 9 1 1 8,
 .z 10 (.ak 0 false 1 false) [.T 9] 8,.Hz 11 10 8,.z 12 (.bT .gtr) [.T 11,.i 8] 8,
 .o 13 .pick [.T 8,.b true,.T 12],.w 14 13,.ez 15 2 1 14,.z 16 (.ak 0 false 1 false) [.T 15] 14,
 .Hz 17 16 14,.z 18 (.bT .eql) [.T 17,.i 0] 14,.o 19 .pick [.T 14,.b true,.T 18],.w 20 19,
 .ez 21 2 1 20,.z 22 (.ak 0 false 1 false) [.T 21] 20,.Hz 23 22 20,.z 24 (.bT .gtr) [.T 23,.i 16] 20,
 .o 25 .pick [.T 20,.b true,.T 24],.w 26 25,.ez 27 3 1 26,.z 28 (.ak 0 false 1 false) [.T 27] 26,
 .Hz 29 28 26,.z 30 (.bT .gtr) [.T 29,.i 60] 26,.o 31 .pick [.T 26,.b true,.T 30],.w 32 31,
 .ez 33 4 1 32,.z 34 (.ak 0 false 1 false) [.T 33] 32,.z 35 (.bT .lss) [.T 34,.i 0] 32,
 .o 36 .pick [.T 32,.b true,.T 35],.w 37 36,.ez 38 4 1 37,.z 39 (.ak 0 false 1 false) [.T 38] 37,
 .ez 40 2 1 37,.z 41 (.ak 0 false 1 false) [.T 40] 37,.Hz 42 41 37,.z 43 (.bT .geq) [.T 39,.T 42] 37,
 .o 44 .pick [.T 37,.b true,.T 43]] [9,10,11,15,16,17,21,22,23,27,28,29,33,34,38,39,40,41,42] (.cond (.T 44) [1] (.s [
 .m 2 (.b false)] [] .ret) [] .skip)) (.s [.e 45 2 1,.l 46 0 (.T 45),
 .e 47 4 1,.l 48 0 (.T 47),.o 49 (.indexAddr 7) [.T 46,.T 48],.L 50 7 49,
 .G 3 1 [.i 0,.U,.bool false,.i 0,.i 0,.i 0,.U],.Q 1 7 3 50] [] (.s [
 .e 51 0 3,.l 52 1 (.T 51),.o 53 (.bT .eql) [.T 52,.i 0],.w 54 53,
 .Ey 55 2 3 54,.y 56 (.ak 1 false 1 false) [.T 55] 54,.y 57 (.un .not) [.T 56] 54,.o 58 .pick [.T 54,.T 57,.b false],
 .w 59 58,.y 60 (.ak 0 true 5 false) [.t 1] 59,.y 61 (.call 52) [.T 60] 59,.o 62 .pick [.T 59,.T 61,.b false],
 .w 63 62,.y 64 (.ak 0 true 5 false) [.t 1] 63,.ey 65 1 1 63,.y 66 (.ak 0 false 1 false) [.T 65] 63,
 .y 67 (.call 53) [.T 64,.T 66] 63,.o 68 .pick [.T 63,.T 67,.b false],.w 69 68,.y 70 (.ak 0 true 5 false) [.t 1] 69,
 .y 71 (.call 54) [.T 70] 69,.o 72 .pick [.T 69,.T 71,.b false],.w 73 72,.y 74 (.ak 0 true 5 false) [.T 1] 73,
 .y 75 (.call 55) [.T 74] 73,.o 76 .pick [.T 73,.T 75,.b false],.w 2 76] [1,3,55,56,60,64,65,66,70,74] .ret)))) }
def UN:aX:=
 (.s [.J 11 .lss 10 9] [] (.seq (.w 11 [8,9,10] 0) (.seq (.block 1 (.s [
 .Y 12 7 8 10,.L 13 7 12,
 .G 5 1 [.i 0,.U,.bool false,.i 0,.i 0,.i 0,.U],.Q 1 7 5 13] [] (.r [
 .v 14 3,.v 15 3,.v 16 3,.H 17 16,.o 18 (.bT .sub) [.T 17,.i 1],
 .o 19 (.indexAddr 1) [.T 15,.T 18],.D 20 19,.E 21 1 5,.l 22 1 (.T 21),
 .H 23 22,.o 24 (.bT .add) [.T 20,.T 23],.o 25 (.lit 1 1 [.i 0] [0]) [.T 24],.o 26 (.kE 1 8) [.T 14,.T 25],
 .w 3 26] (some []) []))) (.g [.o 27 (.bT .add) [.T 10,.i 1],.w 10 27] []))))
def s26:aA:={ eJ:=26,mode:=.pure,az:=1,aG:=2,dj:=[],results:=[.tmp 2 true],body:=
 (.s [.B 1 0 5 0,.o 2 .move [.const .U]] [2] (.s [.o 6 (.Qu 1 1 [.i 0] [0]) [.i 0],
 .w 3 6] [] (.seq (.s [.E 7 2 1,.l 8 0 (.T 7),.h 9 8,
 .m 10 (.i 0)] [] (.block 0 (.loop UN))) (.seq (.seq (.Qv 3) (.g [.w 28 3,.w 2 28] []))
 .ret)))) }
def s27:aA:={ eJ:=27,mode:=.pure,az:=1,aG:=1,dj:=[],results:=[.tmp 2 false],body:=
 (.s [.B 1 0 5 0,.m 2 (.i 0)] [2] (.seq (.r [.A 3 0 5 1,
 .c 4 26 [.T 3],.e 5 2 1,.l 6 0 (.T 5),.H 7 6,.o 8 (.indexAddr 1) [.T 4,.T 7],
 .D 9 8,.w 2 9] (some []) [1]) .ret)) }
def X1:aA:={ eJ:=28,mode:=.oP,az:=2,aG:=1,dj:=[],results:=[],body:=
 (.s [.B 3 0 6 1] [] (.s [.e 4 0 3,.l 5 0 (.T 4)] [] (.block 0 (.seq
 (.s [.I 10 .eql 5 11,.w 9 10] [] (.cond (.t 9) [] .skip [9] (.g [
 .I 11 .eql 5 12,.w 9 11] []))) (.cond (.T 9) [5] (.r [.v 12 0,.v 13 0,
 .e 14 1 3,.l 15 0 (.T 14),.c 16 57 [.T 13,.T 15],.e 17 4 3,
 .l 18 0 (.T 17),.c 19 56 [.T 12,.i 1,.T 16,.T 18,.i 0]] (some []) [0,3,19]) [] (.s [.I 21 .eql 5 13,.w 20 21] [] (.cond (.T 20) [5] (.g [.w 22 0,
 .o 23 (.ak 0 true 6 false) [.T 3],.c 24 58 [.T 22,.T 23]] [24]) [] (.s [.I 26 .eql 5 18,
 .w 25 26] [] (.cond (.T 25) [5] (.s [.v 27 0,.e 28 1 3,.l 29 0 (.T 28),
 .c 30 59 [.T 27,.T 29]] [] (.cond (.T 30) [] (.r [.v 31 0,.v 32 0,.v 33 0,.o 34 .nilCheck [.T 33],
 .E 35 8 34,.D 36 35,.c 37 60 [.T 32,.T 36],.v 38 0,.E 39 1 3,
 .l 40 0 (.T 39),.c 41 57 [.T 38,.T 40],
 .c 42 56 [.T 31,.i 2,.T 37,.T 41,.i 0]] (some []) [0,42]) [0,3] .skip)) [] (.s [
 .I 44 .eql 5 19,.w 43 44] [] (.cond (.T 43) [5] (.s [.v 45 0,
 .e 46 1 3,.l 47 0 (.T 46),.c 48 59 [.T 45,.T 47]] [] (.cond (.T 48) [] (.r [.v 49 0,
 .v 50 0,.e 51 1 3,.l 52 0 (.T 51),.c 53 57 [.T 50,.T 52],.v 54 0,
 .e 55 4 3,.l 56 0 (.T 55),.c 57 61 [.T 54,.T 56],
 .c 58 56 [.T 49,.i 2,.T 53,.T 57,.i 0]] (some []) [0,3,58]) [0,3] .skip)) [] (.s [
 .o 60 (.bT .eql) [.T 5,.i 20],.w 59 60] [] (.cond (.T 59) [] (.s [.v 61 0,
 .e 62 1 3,.l 63 0 (.T 62),.c 64 59 [.T 61,.T 63]] [] (.cond (.T 64) [] (.r [.v 65 0,
 .v 66 0,.e 67 4 3,.l 68 0 (.T 67),.c 69 61 [.T 66,.T 68],.v 70 0,
 .e 71 1 3,.l 72 0 (.T 71),.c 73 57 [.T 70,.T 72],
 .c 74 56 [.T 65,.i 2,.T 69,.T 73,.i 0]] (some []) [0,3,74]) [0,3] .skip)) [] (.g [.w 6 0,
 .o 7 (.ak 0 true 6 false) [.T 3],.c 8 62 [.T 6,.T 7]] [8])))))))))))))) }
def UO:aX:=
 (.seq (.s [.v 23 7,.e 24 6 5,.l 25 1 (.T 24),.H 26 25,
 .o 27 (.bT .lss) [.T 23,.T 26]] [] (.w 27 [5,6,7] 2)) (.seq (.block 3 (.r [.w 30 3,
 .A 31 0 5 1,.v 32 4,.v 33 6,.e 34 6 5,.l 35 1 (.T 34),
 .v 36 7,.o 37 (.indexAddr 6) [.T 35,.T 36],.L 38 6 37,.c 39 63 [.T 31,.T 32,.T 33,.T 38],
 .o 40 (.append 4 32) [.T 30,.T 39],.w 3 40] (some []) [])) (.g [.w 28 7,.o 29 (.bT .add) [.T 28,.i 1],
 .w 7 29] [])))
def UP:aX:=
 (.seq (.s [.v 8 4,.e 9 2 1,.l 10 0 (.T 9),.H 11 10,
 .o 12 (.bT .lss) [.T 8,.T 11]] [] (.w 12 [1,4] 0)) (.seq (.block 1 (.s [.e 15 2 1,
 .l 16 0 (.T 15),.v 17 4,.o 18 (.indexAddr 7) [.T 16,.T 17],.L 19 7 18,
 .G 5 1 [.i 0,.U,.bool false,.i 0,.i 0,.i 0,.U],.Q 1 7 5 19] [] (.s [
 .A 20 0 5 1,.v 21 4,.c 22 30 [.T 20,.T 21],.w 6 22] [] (.s [
 .m 7 (.i 0)] [] (.block 2 (.loop UO)))))) (.g [.w 13 4,.o 14 (.bT .add) [.T 13,.i 1],
 .w 4 14] [])))
def s29:aA:={ eJ:=29,mode:=.pure,az:=1,aG:=2,dj:=[],results:=[.tmp 2 true],body:=
 (.s [.B 1 0 5 0,.o 2 .move [.const .U]] [2] (.s [.o 3 .move [.const .U]] [] (.seq (.s [
 .m 4 (.i 0)] [] (.block 0 (.loop UP))) (.s [.w 41 3,.w 2 41] [] .ret)))) }
def UQ:aX:=
 (.seq (.s [.v 7 6,.v 8 1,.o 9 (.bT .lss) [.T 7,.T 8]] [] (.w 9 [1,2,6] 0)) (.seq (.block 1
 (.g [.w 12 5,.e 13 2 2,.l 14 0 (.T 13),.v 15 6,.o 16 (.indexAddr 7) [.T 14,.T 15],
 .E 17 1 16,.D 18 17,.H 19 18,.o 20 (.bT .add) [.T 12,.T 19],.w 5 20] []))
 (.g [.w 10 6,.o 11 (.bT .add) [.T 10,.i 1],.w 6 11] [])))
def s30:aA:={ eJ:=30,mode:=.pure,az:=2,aG:=1,dj:=[],results:=[.tmp 4 false],body:=
 (.s [.B 2 0 5 0,.m 4 (.i 0)] [4] (.s [.m 5 (.i 0)] [] (.seq
 (.s [.m 6 (.i 0)] [] (.block 0 (.loop UQ))) (.s [.w 21 5,.w 4 21] []
 .ret)))) }
def UR:aX:=
 (.seq (.s [.v 14 5,.v 15 0,.o 16 (.len .str) [.t 15],.J 17 .lss 14 16] [14,15,16] (.w 17 [5] 0)) (.block 1 (.s [.v 19 0,.v 20 5,.q 21 65 19 20,.w 18 21,
 .x 22 0 18,.u 23 1 18,.o 6 (.cu 1 [.i 0,.str [],.i 0,.i 0]) [],.S 1 4 6 22,
 .v 7 23] [19,20,22,23] (.seq (.s [.v 24 7,.I 25 .eql 24 0] [24]
 (.cond (.T 25) [0,4,6,7] (.s [.v 26 5,.o 27 (.build [.i 0,.i 0] [(0,1),(1,1)]) [.i 1,.t 26],
 .o 2 .move [.const .U],.S 0 2 3 27] [5,26,27] .ret) [] .skip)) (.s [.w 28 4,
 .A 29 1 4 6,.o 30 (.lit 4 1 [.i 0,.str [],.i 0,.i 0] [0]) [.t 29],.o 31 (.append 4 40) [.T 28,.T 30],
 .w 4 31] [6,29] (.g [.v 32 0,.v 33 5,.v 34 7,.J 35 .add 33 34,
 .q 36 64 32 35,.v 5 36] [7,32,33,34,35,36]))))))
def s31:aA:={ eJ:=31,mode:=.pure,az:=1,aG:=2,dj:=[],results:=[.tmp 2 true,.box 3 0 2 true],body:=
 (.s [.o 2 .move [.const .U],.G 3 0 [.i 0,.i 0]] [2] (.seq (.s [.v 8 0,
 .o 9 (.len .str) [.t 8],.I 10 .gtr 9 6000] [8,9] (.cond (.T 10) [0] (.s [
 .o 11 (.build [.i 0,.i 0] [(0,1)]) [.i 4],.o 2 .move [.const .U],.S 0 2 3 11] [11] .ret) []
 .skip)) (.s [.o 4 .move [.const .U]] [] (.s [.v 12 0,.c 13 64 [.t 12,.i 0],
 .v 5 13] [12,13] (.seq (.block 0 (.loop UR)) (.s [.w 37 4,.v 38 0,.o 39 (.len .str) [.t 38],
 .o 40 (.build [.i 0,.str [],.i 0,.i 0] [(0,1),(3,1)]) [.i 0,.t 39],
 .o 41 (.lit 4 1 [.i 0,.str [],.i 0,.i 0] [0]) [.t 40],.o 42 (.append 4 40) [.T 37,.T 41],
 .o 43 (.build [.i 0,.i 0] []) [],.w 2 42,.S 0 2 3 43] [0,38,39,40,43] .ret)))))) }
def s32:aA:={ eJ:=32,mode:=.oP,az:=1,aG:=0,dj:=[],results:=[.tmp 2 false],body:=
 (.s [.m 2 (.b false)] [2] (.s [.v 3 0,.N 4 3,.E 5 3 4,
 .E 6 0 5,.D 7 6,.I 8 .eql 7 0,.v 2 8] [0,3,7,8] .ret)) }
def s33:aA:={ eJ:=33,mode:=.oP,az:=1,aG:=1,dj:=[],results:=[.box 2 0 4 true],body:=
 (.s [.o 2 (.cu 0 [.i 0,.str [],.i 0,.i 0]) []] [] (.seq (.seq (.r [.v 3 0,.N 4 3,
 .E 5 1 4,.D 6 5,.I 7 .lss 6 0,.v 8 7,.vz 9 0 8,
 .z 10 .nilCheck [.t 9] 8,.Ez 11 1 10 8,.Dz 12 11 8,.vz 13 0 8,.z 14 .nilCheck [.t 13] 8,
 .Ez 15 0 14 8,.Dz 16 15 8,.Hz 17 16 8,.Jz 18 .geq 12 17 8,
 .P 19 8 18] (some []) [3,6,7,8,9,10,11,12,13,14,15,16,17,18]) (.cond (.T 19) [0] (.s [
 .o 20 (.build [.i 0,.str [],.i 0,.i 0] [(0,1)]) [.i 0],.S 0 4 2 20] [20] .ret) [] .skip)) (.seq
 (.r [.v 21 0,.N 22 21,.E 23 0 22,.D 24 23,.v 25 0,
 .N 26 25,.E 27 1 26,.D 28 27,.X 29 4 24 28,
 .L 30 4 29,.S 0 4 2 30] (some []) [0,21,25,28,30]) .ret))) }
def s34:aA:={ eJ:=34,mode:=.oP,az:=2,aG:=1,dj:=[],results:=[.tmp 4 false],body:=
 (.s [.m 4 (.b false)] [4] (.s [.v 7 0,.a 8 33 7,
 .o 5 (.cu 0 [.i 0,.str [],.i 0,.i 0]) [],.S 0 4 5 8] [7,8] (.s [
 .m 6 (.i 4)] [] (.seq (.s [.v 9 1,.o 10 .index [.t 9,.i 0],
 .o 11 (.bT .geq) [.t 10,.const (.int .u8 97)],.v 12 11,.vy 13 1 12,.y 14 .index [.t 13,.i 0] 12,
 .y 15 (.bT .leq) [.t 14,.const (.int .u8 122)] 12,.O 16 12 15] [9,10,11,12,13,14,15] (.cond (.T 16) [6] (.g [
 .m 6 (.i 3)] []) [] .skip)) (.s [.v 17 0,.a 18 32 17,.v 19 18,
 .ey 20 0 5 19,.ky 21 0 20 19,.vy 22 6 19,.Jy 23 .eql 21 22 19,
 .O 24 19 23,.v 25 24,.ey 26 1 5 25,.ky 27 0 26 25,
 .vy 28 1 25,.Jy 29 .eql 27 28 25,.O 30 25 29,
 .v 4 30] [0,1,5,6,17,18,19,20,21,22,23,24,25,26,27,28,29,30] .ret))))) }
def s35:aA:={ eJ:=35,mode:=.oP,az:=2,aG:=0,dj:=[],results:=[],body:=
 (.s [.v 4 0,.a 5 32 4] [4] (.cond (.T 5) [] (.g [.v 6 0,.v 7 1,.v 8 0,
 .a 9 33 8,.o 10 (.field 3 1 false) [.t 9],.o 11 (.build [.i 0,.i 0] [(0,1),(1,1)]) [.t 7,.t 10],.N 12 6,
 .E 13 3 12,.R 2 13 11] [0,1,6,7,8,9,10,11]) [0,1] .skip)) }
def US:aX:=
 (.seq (.s [.v 13 0,.a 14 32 13,.v 15 14,.vy 16 0 15,
 .y 17 (.call 34) [.t 16,.const (.str [125])] 15,.y 18 (.un .not) [.t 17] 15,.O 19 15 18] [13,14,15,16,17,18]
 (.w 19 [] 0)) (.block 1 (.seq (.s [.v 20 0,.a 21 33 20,.o 22 (.field 0 1 false) [.t 21],
 .I 23 .eql 22 1,.v 24 23,.ey 25 1 3 24,.ky 26 1 25 24,
 .Hy 27 26 24,.Iy 28 .eql 27 8 24,
 .O 29 24 28] [20,21,22,23,24,25,26,27,28] (.cond (.T 29) [] (.s [.v 30 0,
 .c 31 35 [.t 30,.i 4]] [30,31] (.exit 0)) [] .skip)) (.seq (.r [.e 32 1 3,
 .o 33 (.ak 1 false 1 true) [.t 32],.v 34 0,.a 35 37 34,.o 36 (.lit 4 1 [.str [],.str [],.i 0,.i 0] [0]) [.t 35],
 .o 37 (.append 4 48) [.T 33,.T 36],.e 38 1 3,.Q 1 1 38 37] (some []) [32,34,35,38]) (.g [.v 39 0,
 .c 40 38 [.t 39,.const (.str [59])]] [39,40])))))
def s36:aA:={ eJ:=36,mode:=.oP,az:=1,aG:=2,dj:=[],results:=[.box 2 0 3 true],body:=
 (.s [.o 2 (.cu 0 [.str [],.U,.i 0]) []] [] (.s [.v 4 0,.a 5 33 4,
 .o 6 (.field 3 1 false) [.t 5],.o 7 (.build [.str [],.U,.i 0] [(2,1)]) [.t 6],.o 3 (.cu 1 [.str [],.U,.i 0]) [],
 .Q 1 3 3 7] [4,5,6] (.s [.v 8 0,.a 9 66 8,.e 10 0 3,
 .S 1 1 10 9] [8,9,10] (.s [.v 11 0,.c 12 38 [.t 11,.const (.str [123])]] [11,12] (.seq (.block 0
 (.loop US)) (.s [.v 41 0,.c 42 38 [.t 41,.const (.str [125])]] [0,41,42] (.s [
 .A 43 1 3 3,.Q 0 3 2 43] [3] .ret))))))) }
def s37:aA:={ eJ:=37,mode:=.oP,az:=1,aG:=2,dj:=[],results:=[.box 2 0 4 true],body:=
 (.s [.o 2 (.cu 0 [.str [],.str [],.i 0,.i 0]) []] [] (.s [.v 4 0,.a 5 33 4,
 .o 6 (.field 3 1 false) [.t 5],.o 7 (.build [.str [],.str [],.i 0,.i 0] [(3,1)]) [.t 6],
 .o 3 (.cu 1 [.str [],.str [],.i 0,.i 0]) [],.S 1 4 3 7] [4,5,6,7] (.s [.v 8 0,
 .a 9 66 8,.e 10 0 3,.S 1 1 10 9] [8,9,10] (.s [.v 11 0,
 .c 12 38 [.t 11,.const (.str [58])]] [11,12] (.s [.v 13 0,.a 14 67 13,.e 15 1 3,
 .S 1 2 15 14] [0,13,14,15] (.s [.A 16 1 4 3,.S 0 4 2 16] [3,16]
 .ret)))))) }
def s38:aA:={ eJ:=38,mode:=.oP,az:=2,aG:=0,dj:=[],results:=[],body:=
 (.seq (.s [.v 4 0,.v 5 1,.q 6 34 4 5,.o 7 (.un .not) [.t 6]] [1,4,5,6] (.cond (.T 7) [] (.s [.v 8 0,.c 9 35 [.t 8,.i 2]] [0,8,9] .ret) [] .skip)) (.g [.v 10 0,
 .N 11 10,.E 12 1 11,.D 13 12,.I 14 .add 13 1,
 .N 15 10,.E 16 1 15,.R 1 16 14] [0,10,13,14])) }
def UT:aX:=
 (.seq (.s [.v 13 0,.a 14 32 13,.v 15 14,.vy 16 0 15,
 .y 17 (.call 34) [.t 16,.const (.str [41])] 15,.y 18 (.un .not) [.t 17] 15,.O 19 15 18] [13,14,15,16,17,18]
 (.w 19 [] 0)) (.block 1 (.seq (.s [.v 20 0,.a 21 33 20,.o 22 (.field 0 1 false) [.t 21],
 .I 23 .eql 22 1,.v 24 23,.ey 25 1 3 24,.ky 26 1 25 24,
 .Hy 27 26 24,.Iy 28 .eql 27 6 24,
 .O 29 24 28] [20,21,22,23,24,25,26,27,28] (.cond (.T 29) [] (.s [.v 30 0,
 .c 31 35 [.t 30,.i 4]] [30,31] (.exit 0)) [] .skip)) (.seq (.r [.e 32 1 3,
 .o 33 (.ak 1 false 1 true) [.t 32],.v 34 0,.a 35 37 34,.o 36 (.lit 4 1 [.str [],.str [],.i 0,.i 0] [0]) [.t 35],
 .o 37 (.append 4 48) [.T 33,.T 36],.e 38 1 3,.Q 1 1 38 37] (some []) [32,34,35,38]) (.s [.v 39 0,
 .c 40 34 [.t 39,.const (.str [41])],.o 41 (.un .not) [.t 40]] [39,40] (.cond (.T 41) [] (.s [.v 42 0,
 .c 43 38 [.t 42,.const (.str [44])]] [42,43] (.s [.v 44 0,.c 45 34 [.t 44,.const (.str [41])]] [44]
 (.cond (.T 45) [] (.g [.v 46 0,.c 47 35 [.t 46,.i 2]] [46,47]) [] .skip))) [] .skip))))))
def s39:aA:={ eJ:=39,mode:=.oP,az:=1,aG:=2,dj:=[],results:=[.box 2 0 7 true],body:=
 (.s [.o 2 (.cu 0 [.str [],.U,.bool false,.str [],.i 0,.U,.i 0]) []] [] (.s [.v 4 0,
 .a 5 33 4,.o 6 (.field 3 1 false) [.t 5],.o 7 (.build [.str [],.U,.bool false,.str [],.i 0,.U,.i 0] [(6,1)]) [.t 6],
 .o 3 (.cu 1 [.str [],.U,.bool false,.str [],.i 0,.U,.i 0]) [],.Q 1 7 3 7] [4,5,6] (.s [
 .v 8 0,.a 9 66 8,.e 10 0 3,.S 1 1 10 9] [8,9,10] (.s [.v 11 0,
 .c 12 38 [.t 11,.const (.str [40])]] [11,12] (.seq (.block 0 (.loop UT)) (.s [.v 48 0,
 .c 49 38 [.t 48,.const (.str [41])]] [48,49] (.seq (.s [.v 50 0,.c 51 34 [.t 50,.const (.str [58])]] [50]
 (.cond (.T 51) [] (.s [.v 52 0,.N 53 52,.E 54 1 53,.D 55 54,
 .I 56 .add 55 1,.N 57 52,.E 58 1 57,.R 1 58 56] [52,55,56] (.s [.e 59 2 3,.n (.iW 1 1) [.t 59,.b true]] [59] (.g [.v 60 0,.a 61 67 60,
 .e 62 3 3,.S 1 2 62 61] [60,61,62]))) [] .skip)) (.s [.v 63 0,.a 64 68 63,
 .e 65 5 3,.Q 1 1 65 64] [0,63,65] (.s [.A 66 1 7 3,
 .Q 0 7 2 66] [3] .ret))))))))) }
def UU:aX:=
 (.seq (.s [.v 22 7,.e 23 2 1,.k 24 0 23,.H 25 24,
 .J 26 .lss 22 25] [22,23,25] (.w 26 [1,4,7] 0)) (.seq (.block 1 (.seq (.r [
 .A 29 3 4 4,.A 30 0 3 1,.c 31 70 [.T 30],.e 32 2 4,
 .k 33 3 32,.v 34 7,.X 35 6 33 34,.L 36 6 35,
 .o 37 (.build [.U,.U,.U,.i 0,.U,.str [],.U,.bool false,.i 0,.i 0,.i 0,.U,.i 0,.i 0] [(0,4),(4,1),(5,6)]) [.T 29,.T 31,.T 36],
 .o 38 (.box 14) [.T 37],.v 8 38] (some []) [32,34,38]) (.s [.v 39 8,.e 40 2 4,
 .k 41 3 40,.v 42 7,.X 43 6 41 42,.E 44 1 43,
 .D 45 44,.o 46 (.append 4 40) [.const .U,.T 45],.N 47 39,.E 48 11 47,
 .n (.store 1) [.T 48,.T 46]] [39,40,42] (.s [.v 49 8,.e 50 2 1,.k 51 0 50,
 .v 52 7,.X 53 7 51 52,.E 54 5 53,.D 55 54,.p 56 71 49 55,
 .w 9 56] [49,50,52] (.seq (.s [.v 57 8,.a 58 72 57,.o 59 (.un .not) [.t 58]] [57,58]
 (.cond (.T 59) [1,4,6,7,9] (.seq (.r [.o 60 (.build [.U,.U,.U,.i 0,.U] []) [],.v 61 8,.N 62 61,
 .E 63 12 62,.L 64 2 63,.Q 1 5 2 60,.S 2 2 3 64] (some []) [8,61,64]) .ret) []
 .skip)) (.r [.e 65 4 6,.o 66 (.ak 5 false 1 true) [.t 65],.v 67 8,.N 68 67,
 .E 69 11 68,.D 70 69,.w 71 9,.e 72 2 1,.k 73 0 72,
 .v 74 7,.X 75 7 73 74,.E 76 6 75,.D 77 76,
 .o 78 (.build [.U,.U,.i 0] [(0,1),(1,1),(2,1)]) [.T 70,.T 71,.t 77],.o 79 (.lit 3 1 [.U,.U,.i 0] [0]) [.T 78],
 .o 80 (.append 3 56) [.T 66,.T 79],.e 81 4 6,.Q 5 1 81 80] (some []) [8,65,67,72,74,77,81])))))) (.g [
 .v 27 7,.I 28 .add 27 1,.v 7 28] [27,28])))
def s40:aA:={ eJ:=40,mode:=.pure,az:=1,aG:=6,dj:=[],results:=[.box 2 1 5 true,.box 3 2 2 true],body:=
 (.s [.B 1 0 3 0,.G 2 1 [.U,.U,.U,.i 0,.U],
 .G 3 2 [.i 0,.i 0]] [] (.s [.A 11 0 3 1,.c 12 69 [.T 11],.w 10 12,
 .x 13 0 10,.u 14 1 10,.G 4 3 [.U,.U,.U,.i 0],.G 5 4 [.i 0,.i 0],
 .Q 3 4 4 13,.S 4 2 5 14] [14] (.seq (.s [.e 15 0 5,
 .k 16 4 15,.I 17 .neq 16 0] [15,16] (.cond (.T 17) [1,4] (.seq (.r [
 .o 18 (.build [.U,.U,.U,.i 0,.U] []) [],.A 19 4 2 5,.Q 1 5 2 18,
 .S 2 2 3 19] (some []) [5,19]) .ret) [5] .skip)) (.s [.A 20 3 4 4,
 .o 21 (.build [.U,.U,.U,.i 0,.U] [(0,4)]) [.T 20],.G 6 5 [.U,.U,.U,.i 0,.U],
 .Q 5 5 6 21] [] (.seq (.s [.m 7 (.i 0)] [] (.block 0 (.loop UU))) (.s [
 .A 82 5 5 6,.o 83 (.build [.i 0,.i 0] []) [],.Q 1 5 2 82,
 .S 2 2 3 83] [6,83] .ret)))))) }
def UW:aX:=
 (.seq (.s [.v 34 7,.e 35 0 3,.e 36 2 35,.k 37 2 36,
 .v 38 5,.X 39 6 37 38,.E 40 1 39,.D 41 40,.H 42 41,
 .J 43 .lss 34 42] [34,35,36,38,42] (.w 43 [7] 2)) (.seq (.block 3 (.g [.v 46 6,
 .N 47 46,.E 48 0 47,.D 49 48,.v 50 7,.X 51 1 49 50,
 .n (.store 1) [.T 51,.b true]] [46,50])) (.g [.v 44 7,.I 45 .add 44 1,
 .v 7 45] [44,45])))
def UX:aX:=
 (.seq (.s [.v 17 5,.e 18 4 3,.k 19 2 18,.H 20 19,
 .J 21 .lss 17 20] [17,18,20] (.w 21 [3,5] 0)) (.seq (.block 1 (.s [.e 24 4 3,
 .k 25 2 24,.v 26 5,.X 27 3 25 26,.E 28 0 27,
 .D 29 28,.H 30 29,.o 31 (.uU 1 1 [.bool false] true) [.t 30,.t 30],
 .o 32 (.build [.U,.i 0,.i 0] [(0,1)]) [.T 31],.o 33 (.box 3) [.T 32],.v 6 33] [24,26,30,33] (.seq (.s [
 .m 7 (.i 0)] [] (.block 2 (.loop UW))) (.s [.v 52 6,.e 53 4 3,
 .k 54 2 53,.v 55 5,.X 56 3 54 55,.E 57 1 56,
 .D 58 57,.p 59 73 52 58] [52,53,55,59] (.s [.v 60 6,.N 61 60,
 .E 62 1 61,.E 63 0 62,.D 64 63,.I 65 .neq 64 0] [60,64]
 (.cond (.T 65) [3,5] (.s [.v 66 6,.N 67 66,.E 68 1 67,.L 69 2 68,
 .S 1 2 2 69] [6,66,69] .ret) [6] .skip)))))) (.g [.v 22 5,.I 23 .add 22 1,
 .v 5 23] [22,23])))
def s41:aA:={ eJ:=41,mode:=.pure,az:=1,aG:=4,dj:=[],results:=[.box 2 1 2 true],body:=
 (.s [.B 1 0 3 0,.G 2 1 [.i 0,.i 0]] [] (.s [.A 9 0 3 1,
 .c 10 40 [.T 9],.w 8 10,.x 11 0 8,.u 12 1 8,
 .G 3 2 [.U,.U,.U,.i 0,.U],.G 4 3 [.i 0,.i 0],.Q 2 5 3 11,
 .S 3 2 4 12] [1,12] (.seq (.s [.e 13 0 4,.k 14 3 13,
 .I 15 .neq 14 0] [13,14] (.cond (.T 15) [3] (.s [.A 16 3 2 4,
 .S 1 2 2 16] [4,16] .ret) [4] .skip)) (.seq (.s [.m 5 (.i 0)] [] (.block 0 (.loop UX)))
 (.s [.o 70 (.build [.i 0,.i 0] []) [],.S 1 2 2 70] [70] .ret))))) }
def UY:aX:=
 (.seq (.s [.v 21 3,.e 22 0 1,.k 23 0 22,.H 24 23,
 .J 25 .lss 21 24] [21,22,24] (.w 25 [3] 0)) (.seq (.block 1 (.s [.e 28 0 1,
 .k 29 0 28,.v 30 3,.X 31 3 29 30,.E 32 1 31,
 .D 33 32,.H 34 33,.I 35 .gtr 34 8] [28,30,34] (.cond (.T 35) [1,3] (.s [.m 2 (.b true)] [] .ret) [] .skip))) (.g [.v 26 3,.I 27 .add 26 1,
 .v 3 27] [26,27])))
def UZ:aX:=
 (.seq (.s [.v 36 4,.e 37 2 1,.k 38 0 37,.H 39 38,
 .J 40 .lss 36 39] [36,37,39] (.w 40 [1,4] 2)) (.seq (.block 3 (.s [.e 43 2 1,
 .k 44 0 43,.v 45 4,.X 46 7 44 45,.E 47 1 46,
 .D 48 47,.H 49 48,.I 50 .gtr 49 6] [43,45,49] (.cond (.T 50) [1,4] (.s [.m 2 (.b true)] [] .ret) [] .skip))) (.g [.v 41 4,.I 42 .add 41 1,
 .v 4 42] [41,42])))
def s42:aA:={ eJ:=42,mode:=.pure,az:=1,aG:=1,dj:=[],results:=[.tmp 2 false],body:=
 (.s [.B 1 0 3 0,.m 2 (.b false)] [2] (.seq (.s [.e 5 0 1,
 .k 6 0 5,.H 7 6,.I 8 .gtr 7 12,.v 9 8,.ez 10 1 1 9,
 .kz 11 0 10 9,.Hz 12 11 9,.Iz 13 .gtr 12 8 9,
 .P 14 9 13,.v 15 14,.ez 16 2 1 15,.kz 17 0 16 15,
 .Hz 18 17 15,.Iz 19 .gtr 18 16 15,
 .P 20 15 19] [5,7,8,9,10,11,12,13,14,15,16,17,18,19] (.cond (.T 20) [1] (.s [
 .m 2 (.b true)] [] .ret) [] .skip)) (.seq (.s [.m 3 (.i 0)] [] (.block 0 (.loop UY)))
 (.seq (.s [.m 4 (.i 0)] [] (.block 2 (.loop UZ))) (.s [.m 2 (.b false)] []
 .ret))))) }
def s43:aA:={ eJ:=43,mode:=.oP,az:=2,aG:=1,dj:=[],results:=[.tmp 4 false],body:=
 (.s [.o 3 (.zq 0 3) [.t 1],.m 4 (.i 0)] [1,4] (.seq (.r [.v 5 0,.v 6 0,
 .N 7 6,.E 8 6 7,.E 9 1 8,.o 10 (.load false 1 true) [.T 9],.A 11 0 3 3,
 .o 12 (.lit 3 1 [.i 0,.i 0,.i 0] [0]) [.t 11],.o 13 (.append 3 24) [.T 10,.T 12],.N 14 5,.E 15 6 14,
 .E 16 1 15,.n (.store 1) [.T 16,.T 13]] (some []) [3,5,6,11]) (.s [.v 17 0,.N 18 17,
 .E 19 6 18,.E 20 1 19,.D 21 20,.H 22 21,
 .I 23 .sub 22 1,.v 4 23] [0,17,22,23] .ret))) }
def U0:aX:=
 (.seq (.s [.v 5 4,.v 6 1,.H 7 6,.J 8 .lss 5 7] [5,7] (.w 8 [0,1,4] 0)) (.seq (.block 1 (.g [.v 11 0,.v 12 1,.v 13 4,.X 14 9 12 13,
 .L 15 9 14,.p 16 74 11 15] [11,13,16])) (.g [.v 9 4,
 .I 10 .add 9 1,.v 4 10] [9,10])))
def s44:aA:={ eJ:=44,mode:=.SH,az:=2,aG:=0,dj:=[],results:=[],body:=
 (.s [.m 4 (.i 0)] [] (.block 0 (.loop U0))) }
def s45:aA:={ eJ:=45,mode:=.SH,az:=1,aG:=0,dj:=[],results:=[],body:=
 (.seq (.s [.v 3 0,.N 4 3,.E 5 6 4,.E 6 2 5,.D 7 6,
 .o 8 (.un .not) [.t 7]] [3,7] (.cond (.T 8) [] (.s [.v 9 0,
 .o 10 (.build [.i 0,.i 0,.i 0,.i 0,.i 0,.U] [(0,1),(1,1)]) [.i 18,.const (.i (-1))],
 .p 11 75 9 10] [0,9,11] .ret) [] .skip)) (.s [.v 12 0,.v 13 0,.N 14 13,
 .E 15 6 14,.E 16 3 15,.L 17 3 16,.q 18 43 12 17,
 .v 2 18] [12,13,17,18] (.seq (.s [.v 19 0,.N 20 19,.E 21 6 20,
 .E 22 3 21,.L 23 3 22,.a 24 17 23] [19,23] (.cond (.T 24) [] (.g [.v 25 0,
 .v 26 2,.o 27 (.build [.i 0,.i 0,.i 0,.i 0,.i 0,.U] [(0,1),(1,1)]) [.i 2,.t 26],
 .p 28 75 25 27] [25,26,28]) [] (.g [.v 29 0,.v 30 2,
 .o 31 (.build [.i 0,.i 0,.i 0,.i 0,.i 0,.U] [(0,1),(1,1)]) [.i 1,.t 30],
 .p 32 75 29 31] [29,30,32]))) (.g [.v 33 0,.v 34 2,
 .o 35 (.build [.i 0,.i 0,.i 0,.i 0,.i 0,.U] [(0,1),(1,1)]) [.i 18,.t 34],
 .p 36 75 33 35] [0,2,33,34,36])))) }
def U1:aX:=
 (.seq (.s [.v 6 5,.v 7 1,.H 8 7,.o 9 (.bT .lss) [.T 6,.T 8]] [] (.w 9 [1,2,5] 0)) (.seq (.block 1 (.seq (.r [.A 12 0 5 2,.v 13 1,.v 14 5,.o 15 (.indexAddr 3) [.T 13,.T 14],
 .L 16 3 15,.c 17 47 [.T 12,.T 16],.o 18 (.un .not) [.T 17]] (some []) []) (.cond (.T 18) [1,2,5] (.s [
 .m 4 (.b false)] [] .ret) [] .skip))) (.g [.w 10 5,.o 11 (.bT .add) [.T 10,.i 1],
 .w 5 11] [])))
def s46:aA:={ eJ:=46,mode:=.pure,az:=2,aG:=1,dj:=[],results:=[.tmp 4 false],body:=
 (.s [.B 2 0 5 0,.m 4 (.b false)] [4] (.seq (.s [.m 5 (.i 0)] []
 (.block 0 (.loop U1))) (.s [.m 4 (.b true)] [] .ret))) }
def ZA:aA:={ eJ:=47,mode:=.pure,az:=2,aG:=2,dj:=[],results:=[.tmp 4 false],body:=
 (.s [.B 2 0 5 0,.B 3 1 3 1,.m 4 (.b false)] [4] (.seq (.s [
 .e 5 2 3,.l 6 1 (.T 5),.o 7 (.bT .lss) [.T 6,.i 0],.w 8 7,
 .ez 9 2 3 8,.z 10 (.ak 1 false 1 false) [.T 9] 8,.z 11 (.bT .gtr) [.T 10,.i 3] 8,
 .o 12 .pick [.T 8,.b true,.T 11]] [9,10] (.cond (.T 12) [2,3] (.s [.m 4 (.b false)] [] .ret) [] .skip))
 (.seq (.s [.e 13 0 3,.l 14 1 (.T 13)] [] (.block 0 (.seq (.s [
 .I 16 .eql 14 1,.w 15 16] [] (.cond (.t 15) [] .skip [15] (.g [
 .I 17 .eql 14 2,.w 15 17] []))) (.cond (.T 15) [2,14] (.s [.E 18 1 3,
 .l 19 1 (.T 18),.o 20 (.bT .eql) [.T 19,.i 0],.w 4 20] [] .ret) [] (.s [
 .o 22 (.bT .eql) [.T 14,.i 3],.w 21 22] [] (.cond (.T 21) [] (.s [.e 23 1 3,
 .l 24 1 (.T 23),.o 25 (.bT .geq) [.T 24,.i 0],.w 26 25,.Ey 27 1 3 26,
 .y 28 (.ak 1 false 1 false) [.T 27] 26,.Ey 29 0 2 26,.y 30 (.ak 0 false 1 false) [.T 29] 26,.Hy 31 30 26,
 .y 32 (.bT .lss) [.T 28,.T 31] 26,.o 33 .pick [.T 26,.T 32,.b false],.w 4 33] [2,3,27,28,29,30,31] .ret) [2,3] .skip))))))
 (.s [.m 4 (.b false)] [] .ret)))) }
def nA:aA:={ eJ:=48,mode:=.pure,az:=3,aG:=7,dj:=[],results:=[.tmp 6 false],body:=
 (.s [.B 3 0 5 0,.B 5 1 6 2,.m 6 (.b false)] [6] (.seq (.s [.v 12 1,
 .o 13 (.bT .lss) [.T 12,.i 0],.w 14 13,.vz 15 1 14,.ez 16 2 3 14,
 .z 17 (.ak 0 false 1 false) [.T 16] 14,.Hz 18 17 14,.z 19 (.bT .geq) [.T 15,.T 18] 14,.o 20 .pick [.T 14,.b true,.T 19],
 .w 21 20,.z 22 (.ak 1 true 6 false) [.t 5] 21,.z 23 (.call 76) [.T 22] 21,.z 24 (.un .not) [.T 23] 21,
 .o 25 .pick [.T 21,.b true,.T 24]] [15,16,17,18,22,23] (.cond (.T 25) [1,3,5] (.s [.m 6 (.b false)] []
 .ret) [] .skip)) (.s [.e 26 2 3,.l 27 0 (.T 26),.v 28 1,.o 29 (.indexAddr 7) [.T 27,.T 28],
 .L 30 7 29,.G 7 2 [.i 0,.U,.bool false,.i 0,.i 0,.i 0,.U],
 .Q 2 7 7 30] [] (.s [.o 31 (.build [.i 0,.i 0,.i 0] []) [],
 .G 8 3 [.i 0,.i 0,.i 0],.Q 3 3 8 31] [] (.seq (.r [.A 32 2 7 7,
 .e 33 1 5,.l 34 1 (.T 33),.c 35 77 [.T 32,.T 34],.A 36 2 7 7,
 .e 37 2 5,.l 38 1 (.T 37),.c 39 77 [.T 36,.T 38],.A 40 2 7 7,
 .e 41 3 5,.l 42 1 (.T 41),.c 43 77 [.T 40,.T 42],
 .G 9 4 [.i 0,.i 0,.i 0],.G 10 5 [.i 0,.i 0,.i 0],
 .G 11 6 [.i 0,.i 0,.i 0],.Q 4 3 9 35,.Q 5 3 10 39,
 .Q 6 3 11 43] (some []) []) (.seq (.s [.e 44 0 5,.l 45 1 (.T 44)] [] (.block 0
 (.s [.I 47 .eql 45 1,.w 46 47] [] (.cond (.T 46) [1,3,7,8,10,11,45] (.seq (.r [
 .A 48 4 3 9,.c 49 78 [],.o 50 (.lg (.flat [.int,.int,.int]) false) [.T 48,.T 49],.w 51 50,
 .z 52 (.ak 4 true 3 false) [.t 9] 51,.z 53 (.call 79) [] 51,.z 54 (.lg (.flat [.int,.int,.int]) false) [.T 52,.T 53] 51,.z 55 .move [.T 54] 51,
 .ey 56 4 5 55,.y 57 (.ak 1 false 1 false) [.T 56] 55,.y 58 (.bT .eql) [.T 57,.i 0] 55,.y 59 .move [.T 58] 55,
 .ez 60 4 5 59,.z 61 (.ak 1 false 1 false) [.T 60] 59,.z 62 (.bT .eql) [.T 61,.i 1] 59,
 .y 63 .pick [.t 59,.b true,.T 62] 55,.z 64 .pick [.t 55,.T 63,.b false] 51,.o 65 .pick [.t 51,.b true,.T 64],
 .w 6 65] (some []) [5,9,51,52,53,54,55,56,57,58,59,60,61,62,63]) .ret) [] (.s [.I 67 .eql 45 2,
 .w 66 67] [] (.cond (.T 66) [1,3,5,7,10,11,45] (.s [.A 68 4 3 9,.o 69 (.ak 3 true 3 false) [.T 8],
 .o 70 (.lg (.flat [.int,.int,.int]) true) [.T 68,.T 69],.w 71 70,.y 72 (.ak 4 true 3 false) [.T 9] 71,.y 73 (.call 17) [.T 72] 71,
 .o 74 .pick [.T 71,.T 73,.b false],.w 6 74] [9,72] .ret) [] (.s [.I 76 .eql 45 3,
 .w 75 76] [] (.cond (.T 75) [1,3,5,7,11,45] (.s [.A 77 4 3 9,.o 78 (.ak 3 true 3 false) [.T 8],
 .o 79 (.lg (.flat [.int,.int,.int]) true) [.T 77,.T 78],.w 80 79,.y 81 (.ak 4 true 3 false) [.T 9] 80,
 .y 82 (.ak 5 true 3 false) [.T 10] 80,.y 83 (.lg (.flat [.int,.int,.int]) false) [.T 81,.T 82] 80,.o 84 .pick [.T 80,.T 83,.b false],
 .w 6 84] [9,10,81,82] .ret) [] (.s [.I 86 .eql 45 4,.w 85 86] []
 (.cond (.T 85) [1,3,7,8,45] (.s [.E 87 4 5,.l 88 1 (.T 87),.o 89 (.ak 4 true 3 false) [.T 9],
 .o 90 (.ak 5 true 3 false) [.T 10],.o 91 (.ak 6 true 3 false) [.T 11],.c 92 80 [.T 88,.T 89,.T 90,.T 91],.w 6 92] []
 .ret) [] (.s [.I 94 .eql 45 5,.w 93 94] [] (.cond (.T 93) [1,3,7,8,11,45] (.seq (.r [
 .e 95 4 5,.l 96 1 (.T 95),.o 97 (.bT .eql) [.T 96,.i 12],.w 98 97,
 .y 99 (.ak 4 true 3 false) [.t 9] 98,.y 100 (.call 78) [] 98,.y 101 (.lg (.flat [.int,.int,.int]) false) [.T 99,.T 100] 98,
 .o 102 .pick [.t 98,.T 101,.b false],.w 103 102,.y 104 (.ak 5 true 3 false) [.t 10] 103,.y 105 (.call 78) [] 103,
 .y 106 (.lg (.flat [.int,.int,.int]) false) [.T 104,.T 105] 103,.o 107 .pick [.t 103,.T 106,.b false],.w 108 107,
 .ez 109 4 5 108,.z 110 (.ak 1 false 1 false) [.T 109] 108,.z 111 (.bT .eql) [.T 110,.i 13] 108,
 .z 112 .move [.T 111] 108,.y 113 (.ak 4 true 3 false) [.t 9] 112,.y 114 (.call 79) [] 112,
 .y 115 (.lg (.flat [.int,.int,.int]) false) [.T 113,.T 114] 112,.z 116 .pick [.t 112,.T 115,.b false] 108,.z 117 .move [.T 116] 108,
 .y 118 (.ak 5 true 3 false) [.t 10] 117,.y 119 (.call 79) [] 117,.y 120 (.lg (.flat [.int,.int,.int]) false) [.T 118,.T 119] 117,
 .z 121 .pick [.t 117,.T 120,.b false] 108,.o 122 .pick [.t 108,.b true,.T 121],
 .w 6 122] (some []) [5,9,10,98,99,100,103,104,105,108,109,110,111,112,113,114,115,116,117,118,119,120]) .ret) [] (.s [
 .I 124 .eql 45 6,.w 123 124] [] (.cond (.T 123) [1,7,11,45] (.seq (.r [
 .A 125 4 3 9,.o 126 (.ak 3 true 3 false) [.T 8],.o 127 (.lg (.flat [.int,.int,.int]) true) [.T 125,.T 126],
 .w 128 127,.y 129 (.ak 4 true 3 false) [.t 9] 128,.y 130 (.ak 0 true 5 false) [.T 3] 128,.y 131 (.ak 5 true 3 false) [.T 10] 128,
 .Ey 132 3 5 128,.y 133 (.ak 1 false 1 false) [.T 132] 128,.y 134 (.call 81) [.T 130,.T 131,.T 133] 128,
 .y 135 (.lg (.flat [.int,.int,.int]) false) [.T 129,.T 134] 128,.o 136 .pick [.t 128,.T 135,.b false],
 .w 6 136] (some []) [3,5,9,10,128,129,130,131,132,133,134]) .ret) [] (.s [.I 138 .eql 45 7,
 .w 137 138] [] (.cond (.T 137) [1,7,11,45] (.seq (.r [.A 139 5 3 10,.o 140 (.ak 3 true 3 false) [.T 8],
 .o 141 (.lg (.flat [.int,.int,.int]) true) [.T 139,.T 140],.w 142 141,.y 143 (.ak 5 true 3 false) [.t 10] 142,
 .y 144 (.ak 0 true 5 false) [.T 3] 142,.y 145 (.ak 4 true 3 false) [.T 9] 142,.Ey 146 3 5 142,
 .y 147 (.ak 1 false 1 false) [.T 146] 142,.y 148 (.call 81) [.T 144,.T 145,.T 147] 142,.y 149 (.lg (.flat [.int,.int,.int]) false) [.T 143,.T 148] 142,
 .o 150 .pick [.t 142,.T 149,.b false],.w 6 150] (some []) [3,5,9,10,142,143,144,145,146,147,148]) .ret) [] (.s [
 .I 152 .eql 45 8,.w 151 152] [] (.cond (.T 151) [1,3,5,7,45] (.seq (.r [
 .A 153 4 3 9,.o 154 (.ak 3 true 3 false) [.T 8],.o 155 (.lg (.flat [.int,.int,.int]) true) [.T 153,.T 154],
 .w 156 155,.ey 157 2 10 156,.y 158 (.ak 5 false 1 false) [.T 157] 156,.y 159 (.bT .gtr) [.T 158,.i 0] 156,
 .o 160 .pick [.t 156,.T 159,.b false],.w 161 160,.y 162 (.ak 6 true 3 false) [.T 11] 161,.y 163 (.call 78) [] 161,
 .y 164 (.lg (.flat [.int,.int,.int]) false) [.T 162,.T 163] 161,.o 165 .pick [.t 161,.T 164,.b false],.w 166 165,
 .y 167 (.ak 4 true 3 false) [.t 9] 166,.y 168 (.ak 5 true 3 false) [.t 10] 166,.y 169 (.call 82) [.T 168] 166,
 .y 170 (.lg (.flat [.int,.int,.int]) false) [.T 167,.T 169] 166,.o 171 .pick [.t 166,.T 170,.b false],
 .w 6 171] (some []) [9,10,11,156,157,158,161,162,163,166,167,168,169]) .ret) [] (.s [.I 173 .eql 45 9,
 .w 172 173] [] (.cond (.T 172) [1,3,5,7,45] (.seq (.r [.A 174 6 3 11,.o 175 (.ak 3 true 3 false) [.T 8],
 .o 176 (.lg (.flat [.int,.int,.int]) true) [.T 174,.T 175],.w 177 176,.ey 178 2 9 177,
 .y 179 (.ak 4 false 1 false) [.T 178] 177,.y 180 (.bT .gtr) [.T 179,.i 0] 177,.o 181 .pick [.t 177,.T 180,.b false],
 .w 182 181,.y 183 (.ak 5 true 3 false) [.T 10] 182,.y 184 (.call 78) [] 182,.y 185 (.lg (.flat [.int,.int,.int]) false) [.T 183,.T 184] 182,
 .o 186 .pick [.t 182,.T 185,.b false],.w 187 186,.y 188 (.ak 6 true 3 false) [.t 11] 187,
 .y 189 (.ak 4 true 3 false) [.t 9] 187,.y 190 (.call 82) [.T 189] 187,.y 191 (.lg (.flat [.int,.int,.int]) false) [.T 188,.T 190] 187,
 .o 192 .pick [.t 187,.T 191,.b false],.w 6 192] (some []) [9,10,11,177,178,179,182,183,184,187,188,189,190]) .ret) [11] (.s [.I 194 .eql 45 10,.w 193 194] [] (.cond (.T 193) [1,3,5,7,8,45] (.seq (.r [
 .o 195 (.ak 4 true 3 false) [.T 9],.c 196 78 [],.o 197 (.lg (.flat [.int,.int,.int]) false) [.T 195,.T 196],.w 198 197,
 .Ey 199 2 10 198,.y 200 (.ak 5 false 1 false) [.T 199] 198,.y 201 (.bT .gtr) [.T 200,.i 0] 198,
 .o 202 .pick [.t 198,.T 201,.b false],.w 6 202] (some []) [10,198,199,200]) .ret) [] (.s [
 .I 204 .eql 45 11,.w 203 204] [] (.cond (.T 203) [7,10,45] (.s [
 .A 205 4 3 9,.o 206 (.ak 3 true 3 false) [.T 8],.o 207 (.lg (.flat [.int,.int,.int]) true) [.T 205,.T 206],
 .w 208 207,.ey 209 0 9 208,.y 210 (.ak 4 false 1 false) [.T 209] 208,.y 211 (.bT .eql) [.T 210,.i 3] 208,
 .o 212 .pick [.T 208,.T 211,.b false],.w 213 212,.ey 214 2 9 213,.y 215 (.ak 4 false 1 false) [.T 214] 213,
 .y 216 (.bT .eql) [.T 215,.i 0] 213,.o 217 .pick [.T 213,.T 216,.b false],.w 218 217,
 .y 219 (.ak 0 true 5 false) [.T 3] 218,.y 220 .move [.T 1] 218,.Ey 221 4 5 218,.y 222 (.ak 1 false 1 false) [.T 221] 218,
 .y 223 (.ak 4 true 3 false) [.T 9] 218,.y 224 (.call 83) [.T 219,.T 220,.T 222,.T 223] 218,.o 225 .pick [.T 218,.T 224,.b false],
 .w 6 225] [1,3,5,9,209,210,214,215,219,220,221,222,223] .ret) [] (.s [.I 227 .eql 45 12,
 .w 226 227] [] (.cond (.T 226) [7,8,45] (.seq (.r [.e 228 2 9,.l 229 4 (.T 228),
 .o 230 (.bT .gtr) [.T 229,.i 0],.w 231 230,.y 232 (.ak 5 true 3 false) [.T 10] 231,.y 233 (.call 78) [] 231,
 .y 234 (.lg (.flat [.int,.int,.int]) false) [.T 232,.T 233] 231,.o 235 .pick [.t 231,.T 234,.b false],.w 236 235,
 .y 237 (.ak 0 true 5 false) [.T 3] 236,.y 238 .move [.T 1] 236,.Ey 239 4 5 236,.y 240 (.ak 1 false 1 false) [.T 239] 236,
 .y 241 (.ak 4 true 3 false) [.t 9] 236,.y 242 (.call 83) [.T 237,.T 238,.T 240,.T 241] 236,.o 243 .pick [.t 236,.T 242,.b false],
 .w 6 243] (some []) [1,3,5,9,10,231,232,233,236,237,238,239,240,241]) .ret) [1,10] (.s [
 .I 245 .eql 45 13,.w 244 245] [] (.cond (.T 244) [8,9,45] (.s [
 .o 246 (.ak 0 true 5 false) [.T 3],.o 247 (.ak 2 true 7 false) [.T 7],.o 248 (.ak 1 true 6 false) [.T 5],.c 249 84 [.T 246,.T 247,.T 248],
 .w 6 249] [] .ret) [] (.seq (.s [.I 251 .eql 45 14,.w 250 251] []
 (.cond (.t 250) [] .skip [250] (.g [.I 252 .eql 45 15,.w 250 252] []))) (.cond (.T 250) [3,5,7,8,45]
 (.seq (.r [.o 253 (.ak 4 true 3 false) [.T 9],.c 254 78 [],.o 255 (.lg (.flat [.int,.int,.int]) false) [.T 253,.T 254],
 .w 6 255] (some []) []) .ret) [] (.s [.I 257 .eql 45 16,.w 256 257] []
 (.cond (.T 256) [3,8,9,45] (.s [.e 258 4 5,.l 259 1 (.T 258),
 .o 260 (.bT .geq) [.T 259,.i 0],.w 261 260,.Ey 262 4 5 261,.y 263 (.ak 1 false 1 false) [.T 262] 261,
 .Ey 264 6 7 261,.y 265 (.ak 2 false 1 false) [.T 264] 261,.Hy 266 265 261,.y 267 (.bT .lss) [.T 263,.T 266] 261,
 .o 268 .pick [.T 261,.T 267,.b false],.w 6 268] [5,7,262,263,264,265,266] .ret) [] (.s [
 .I 270 .eql 45 17,.w 269 270] [] (.cond (.T 269) [3,8,45] (.seq (.r [
 .o 271 (.ak 4 true 3 false) [.T 9],.c 272 79 [],.o 273 (.lg (.flat [.int,.int,.int]) false) [.T 271,.T 272],.w 274 273,
 .ey 275 4 5 274,.y 276 (.ak 1 false 1 false) [.T 275] 274,.y 277 (.bT .geq) [.T 276,.i 0] 274,
 .o 278 .pick [.t 274,.T 277,.b false],.w 279 278,.ey 280 4 5 279,.y 281 (.ak 1 false 1 false) [.T 280] 279,
 .ey 282 6 7 279,.y 283 (.ak 2 false 1 false) [.T 282] 279,.Hy 284 283 279,.y 285 (.bT .lss) [.T 281,.T 284] 279,
 .o 286 .pick [.t 279,.T 285,.b false],.w 287 286,.ey 288 3 5 287,.y 289 (.ak 1 false 1 false) [.T 288] 287,
 .y 290 (.bT .geq) [.T 289,.i 0] 287,.o 291 .pick [.t 287,.T 290,.b false],.w 292 291,
 .ey 293 3 5 292,.y 294 (.ak 1 false 1 false) [.T 293] 292,.ey 295 6 7 292,
 .y 296 (.ak 2 false 1 false) [.T 295] 292,.Hy 297 296 292,.y 298 (.bT .lss) [.T 294,.T 297] 292,
 .o 299 .pick [.t 292,.T 298,.b false],
 .w 6 299] (some []) [5,7,274,275,276,279,280,281,282,283,284,287,288,289,292,293,294,295,296,297]) .ret) [] (.s [
 .I 301 .eql 45 18,.w 300 301] [] (.cond (.T 300) [3,45] (.seq (.s [.e 302 2 7,
 .l 303 2 (.T 302),.o 304 (.un .not) [.T 303]] [] (.cond (.T 304) [7,8,9] (.s [.E 305 1 5,
 .l 306 1 (.T 305),.o 307 (.bT .eql) [.T 306,.const (.i (-1))],.w 6 307] [] .ret) [5] .skip)) (.s [.A 308 4 3 9,.o 309 (.ak 3 true 3 false) [.T 8],.o 310 (.lg (.flat [.int,.int,.int]) true) [.T 308,.T 309],
 .w 311 310,.y 312 (.ak 4 true 3 false) [.T 9] 311,.Ey 313 3 7 311,.y 314 (.ak 2 true 3 false) [.T 313] 311,
 .y 315 (.lg (.flat [.int,.int,.int]) false) [.T 312,.T 314] 311,.o 316 .pick [.T 311,.T 315,.b false],
 .w 6 316] [7,9,312,313,314] .ret)) [7] (.seq (.s [.I 318 .eql 45 19,
 .w 317 318] [] (.cond (.t 317) [45] .skip [317] (.g [.o 319 (.bT .eql) [.T 45,.i 20],
 .w 317 319] []))) (.cond (.T 317) [] (.seq (.r [.A 320 4 3 9,.o 321 (.ak 3 true 3 false) [.T 8],
 .o 322 (.lg (.flat [.int,.int,.int]) true) [.T 320,.T 321],.w 323 322,.ey 324 4 5 323,
 .y 325 (.ak 1 false 1 false) [.T 324] 323,.y 326 (.bT .geq) [.T 325,.i 0] 323,.o 327 .pick [.t 323,.T 326,.b false],
 .w 328 327,.ey 329 4 5 328,.y 330 (.ak 1 false 1 false) [.T 329] 328,.ey 331 1 3 328,
 .y 332 (.ak 0 false 1 false) [.T 331] 328,.Hy 333 332 328,.y 334 (.bT .lss) [.T 330,.T 333] 328,
 .o 335 .pick [.t 328,.T 334,.b false],.w 336 335,.y 337 (.ak 4 true 3 false) [.t 9] 336,.ey 338 1 3 336,
 .y 339 (.ak 0 false 1 false) [.T 338] 336,.ey 340 4 5 336,.y 341 (.ak 1 false 1 false) [.T 340] 336,
 .y 342 (.indexAddr 3) [.T 339,.T 341] 336,.y 343 (.load true 3 false) [.T 342] 336,.y 344 (.lg (.flat [.int,.int,.int]) false) [.T 337,.T 343] 336,
 .o 345 .pick [.t 336,.T 344,.b false],.w 6 345] (some []) [3,5,9,323,324,325,328,329,330,331,332,333,336,337,338,339,340,341,342,343])
 .ret) [3,5,8,9] .skip)))))))))))))))))))))))))))))))))))))) (.s [.m 6 (.b false)] [] .ret))))))) }
def s50:aA:={ eJ:=50,mode:=.pure,az:=2,aG:=1,dj:=[],results:=[.tmp 4 false],body:=
 (.s [.B 2 0 5 0,.m 4 (.i 0)] [4] (.s [.A 5 0 5 2,
 .E 6 2 2,.l 7 0 (.T 6),.H 8 7,.c 9 30 [.T 5,.T 8],.w 10 1,
 .o 11 (.bT .add) [.T 9,.T 10],.w 4 11] [] .ret)) }
def s51:aA:={ eJ:=51,mode:=.pure,az:=2,aG:=1,dj:=[],results:=[.tmp 4 false],body:=
 (.s [.B 2 0 5 0,.m 4 (.i 0)] [4] (.seq (.r [.A 5 0 5 2,
 .e 6 2 2,.l 7 0 (.T 6),.H 8 7,.c 9 30 [.T 5,.T 8],.e 10 2 2,
 .l 11 0 (.T 10),.H 12 11,.o 13 (.bT .add) [.T 9,.T 12],.w 14 1,.o 15 (.bT .add) [.T 13,.T 14],
 .w 4 15] (some []) [2]) .ret)) }
def U3:aX:=
 (.s [.J 22 .lss 21 20] [] (.seq (.w 22 [19,20,21] 2) (.seq (.block 3 (.s [
 .Y 23 4 19 21,.L 24 4 23,.o 6 (.cu 2 [.str [],.i 0,.i 0,.i 0]) [],
 .Q 2 4 6 24] [] (.s [.A 25 0 5 1,.E 26 1 6,
 .o 27 (.ak 2 true 3 false) [.T 26],.c 28 85 [.T 25,.T 27],.o 29 (.un .not) [.T 28]] [] (.cond (.T 29) [1,8,9,10,19,20,21] (.s [
 .m 2 (.b false)] [] .ret) [] .skip)))) (.g [.o 30 (.bT .add) [.T 21,.i 1],.w 21 30] []))))
def U4:aX:=
 (.s [.J 11 .lss 10 9] [] (.seq (.w 11 [1,8,9,10] 0) (.seq (.block 1 (.s [
 .Y 12 2 8 10,.L 13 2 12,.o 4 (.cu 1 [.str [],.U]) [],.Q 1 2 4 13] [] (.seq
 (.s [.e 14 1 4,.l 15 1 (.T 14),.H 16 15,
 .o 17 (.bT .gtr) [.T 16,.i 8]] [] (.cond (.T 17) [1,4,8,9,10] (.s [.m 2 (.b false)] [] .ret) []
 .skip)) (.s [.E 18 1 4,.l 19 1 (.T 18),.h 20 19,
 .m 21 (.i 0)] [] (.block 2 (.loop U3)))))) (.g [.o 31 (.bT .add) [.T 10,.i 1],
 .w 10 31] []))))
def s52:aA:={ eJ:=52,mode:=.pure,az:=1,aG:=3,dj:=[],results:=[.tmp 2 false],body:=
 (.s [.B 1 0 5 0,.m 2 (.b false)] [2] (.seq (.s [.e 7 0 1,
 .l 8 0 (.T 7),.h 9 8,.m 10 (.i 0)] [] (.block 0 (.loop U4))) (.s [
 .m 2 (.b true)] [] .ret))) }
def U5:aX:=
 (.s [.J 10 .lss 9 8] [] (.seq (.w 10 [2,7,8,9] 0) (.seq (.block 1 (.s [
 .Y 11 3 7 9,.L 12 3 11,.G 6 1 [.i 0,.i 0,.i 0],
 .Q 1 3 6 12] [] (.s [.A 13 0 5 2,.o 14 (.ak 1 true 3 false) [.T 6],
 .c 15 85 [.T 13,.T 14],.o 16 (.un .not) [.T 15]] [] (.cond (.T 16) [2,7,8,9] (.s [.m 4 (.b false)] []
 .ret) [] .skip)))) (.g [.o 17 (.bT .add) [.T 9,.i 1],.w 9 17] []))))
def s53:aA:={ eJ:=53,mode:=.pure,az:=2,aG:=2,dj:=[],results:=[.tmp 4 false],body:=
 (.s [.B 2 0 5 0,.m 4 (.b false)] [4] (.seq (.s [.w 7 1,.h 8 7,
 .m 9 (.i 0)] [] (.block 0 (.loop U5))) (.s [.m 4 (.b true)] [] .ret))) }
def U6:aX:=
 (.s [.J 9 .lss 8 7] [] (.seq (.w 9 [1,6,7,8] 0) (.seq (.block 1 (.s [
 .Y 10 4 6 8,.L 11 4 10,.G 4 1 [.i 0,.i 0,.i 0,.i 0],
 .Q 1 4 4 11] [] (.s [.A 12 0 5 1,.e 13 1 4,
 .o 14 (.ak 1 true 3 false) [.T 13],.c 15 85 [.T 12,.T 14],.o 16 (.un .not) [.T 15],.w 17 16,.ez 18 1 4 17,
 .z 19 (.ak 1 true 3 false) [.T 18] 17,.z 20 (.call 86) [.T 19] 17,.z 21 (.un .not) [.T 20] 17,.o 22 .pick [.T 17,.b true,.T 21],
 .w 23 22,.ez 24 0 4 23,.z 25 (.ak 1 false 1 false) [.T 24] 23,.z 26 (.bT .lss) [.T 25,.i 0] 23,
 .o 27 .pick [.T 23,.b true,.T 26],.w 28 27,.Ez 29 0 4 28,.z 30 (.ak 1 false 1 false) [.T 29] 28,
 .ez 31 2 1 28,.z 32 (.ak 0 false 1 false) [.T 31] 28,.Hz 33 32 28,.z 34 (.bT .geq) [.T 30,.T 33] 28,
 .o 35 .pick [.T 28,.b true,.T 34]] [4,18,19,20,24,25,29,30,31,32,33] (.cond (.T 35) [1,6,7,8] (.s [
 .m 2 (.b false)] [] .ret) [] .skip)))) (.g [.o 36 (.bT .add) [.T 8,.i 1],.w 8 36] []))))
def s54:aA:={ eJ:=54,mode:=.pure,az:=1,aG:=2,dj:=[],results:=[.tmp 2 false],body:=
 (.s [.B 1 0 5 0,.m 2 (.b false)] [2] (.seq (.s [.e 5 3 1,
 .l 6 0 (.T 5),.h 7 6,.m 8 (.i 0)] [] (.block 0 (.loop U6))) (.s [
 .m 2 (.b true)] [] .ret))) }
def U8:aX:=
 (.s [.J 10 .lss 9 8] [] (.seq (.w 10 [1,3,7,8,9] 0) (.seq (.block 1 (.s [
 .v 11 9,.Y 12 7 7 9,.L 13 7 12,
 .G 5 1 [.i 0,.U,.bool false,.i 0,.i 0,.i 0,.U],.w 4 11,.Q 1 7 5 13] []
 (.s [.w 14 3,.E 15 6 5,.l 16 1 (.T 15),.H 17 16,
 .o 18 (.bT .add) [.T 14,.T 17],.w 3 18] [] (.s [.v 19 3,.o 20 (.bT .gtr) [.T 19,.i 2500],
 .w 21 20,.z 22 (.ak 0 true 5 false) [.t 1] 21,.z 23 .move [.T 4] 21,.z 24 (.call 87) [.T 22,.T 23] 21,.z 25 (.un .not) [.T 24] 21,
 .o 26 .pick [.T 21,.b true,.T 25]] [4,22,23,24] (.cond (.T 26) [1,3,7,8,9] (.s [.m 2 (.b false)] []
 .ret) [] .skip))))) (.g [.o 27 (.bT .add) [.T 9,.i 1],.w 9 27] []))))
def s55:aA:={ eJ:=55,mode:=.pure,az:=1,aG:=2,dj:=[],results:=[.tmp 2 false],body:=
 (.s [.B 1 0 5 0,.m 2 (.b false)] [2] (.s [.m 3 (.i 0)] [] (.seq
 (.s [.e 6 2 1,.l 7 0 (.T 6),.h 8 7,.m 9 (.i 0)] []
 (.block 0 (.loop U8))) (.s [.m 2 (.b true)] [] .ret)))) }
def s56:aA:={ eJ:=56,mode:=.oP,az:=5,aG:=0,dj:=[],results:=[],body:=
 (.g [.v 10 0,.w 11 0,.o 12 .nilCheck [.T 11],.E 13 11 12,.o 14 (.load false 1 true) [.T 13],
 .w 15 1,.w 16 2,.w 17 3,.w 18 4,
 .o 19 (.build [.i 0,.i 0,.i 0,.i 0] [(0,1),(1,1),(2,1),(3,1)]) [.T 15,.T 16,.T 17,.T 18],
 .o 20 (.lit 4 1 [.i 0,.i 0,.i 0,.i 0] [0]) [.T 19],.o 21 (.append 4 32) [.T 14,.T 20],.o 22 .nilCheck [.T 10],
 .E 23 11 22,.n (.store 1) [.T 23,.T 21]] []) }
def s57:aA:={ eJ:=57,mode:=.oP,az:=2,aG:=0,dj:=[],results:=[.tmp 4 false],body:=
 (.s [.m 4 (.i 0)] [4] (.seq (.r [.v 5 0,.o 6 .nilCheck [.T 5],.E 7 7 6,
 .D 8 7,.v 9 0,.o 10 .nilCheck [.T 9],.E 11 8 10,.D 12 11,
 .o 13 (.indexAddr 1) [.T 8,.T 12],.D 14 13,.w 15 1,.o 16 (.bT .add) [.T 14,.T 15],
 .w 4 16] (some []) [0]) .ret)) }
def U9:aX:=
 (.s [.J 10 .lss 9 8] [] (.seq (.w 10 [7,8,9] 0) (.seq (.block 1 (.s [.v 11 9,
 .Y 12 1 7 9,.D 13 12,.w 4 11,.w 5 13] [] (.s [.v 14 0,
 .v 15 5,.c 16 59 [.T 14,.T 15]] [] (.cond (.T 16) [] (.r [.v 17 0,.v 18 0,.o 19 .nilCheck [.T 18],
 .E 20 7 19,.D 21 20,.e 22 3 3,.l 23 0 (.T 22),
 .o 24 (.indexAddr 1) [.T 21,.T 23],.D 25 24,.w 26 4,.o 27 (.bT .add) [.T 25,.T 26],.v 28 0,
 .w 29 5,.c 30 57 [.T 28,.T 29],
 .c 31 56 [.T 17,.i 2,.T 27,.T 30,.i 0]] (some [(4,13),(7,13),(8,13)]) [31]) [4,5] .skip)))) (.g [
 .o 32 (.bT .add) [.T 9,.i 1],.w 9 32] []))))
def s58:aA:={ eJ:=58,mode:=.oP,az:=2,aG:=1,dj:=[],results:=[],body:=
 (.s [.B 3 0 6 1] [] (.seq (.s [.e 6 5 3,.l 7 0 (.T 6),
 .h 8 7,.m 9 (.i 0)] [] (.block 0 (.loop U9))) (.s [.v 33 0,
 .e 34 1 3,.l 35 0 (.T 34),.c 36 59 [.T 33,.T 35]] [] (.cond (.T 36) [] (.r [.v 37 0,
 .v 38 0,.e 39 1 3,.l 40 0 (.T 39),.c 41 57 [.T 38,.T 40],.v 42 0,
 .e 43 3 3,.l 44 0 (.T 43),.c 45 60 [.T 42,.T 44],
 .c 46 56 [.T 37,.i 2,.T 41,.T 45,.i 0]] (some []) [0,3,46]) [0,3] .skip)))) }
def s59:aA:={ eJ:=59,mode:=.oP,az:=2,aG:=0,dj:=[],results:=[.tmp 4 false],body:=
 (.s [.m 4 (.b false)] [4] (.s [.v 5 1,.o 6 (.bT .geq) [.T 5,.i 0],
 .w 7 6,.y 8 .move [.T 0] 7,.y 9 .nilCheck [.T 8] 7,.Ey 10 0 9 7,.Ey 11 1 10 7,
 .Dy 12 11 7,.y 13 .move [.T 1] 7,.y 14 (.indexAddr 3) [.T 12,.T 13] 7,.y 15 (.load true 3 false) [.T 14] 7,
 .y 16 (.call 86) [.T 15] 7,.o 17 .pick [.T 7,.T 16,.b false],.w 4 17] [0,1,8,9,10,11,12,13,14,15] .ret)) }
def s60:aA:={ eJ:=60,mode:=.oP,az:=2,aG:=0,dj:=[],results:=[.tmp 4 false],body:=
 (.s [.m 4 (.i 0)] [4] (.s [.w 5 0,.o 6 .nilCheck [.T 5],.E 7 9 6,
 .D 8 7,.w 9 1,.o 10 (.bT .add) [.T 8,.T 9],.w 4 10] [] .ret)) }
def s61:aA:={ eJ:=61,mode:=.oP,az:=2,aG:=0,dj:=[],results:=[.tmp 4 false],body:=
 (.s [.m 4 (.i 0)] [4] (.seq (.r [.v 5 0,.o 6 .nilCheck [.T 5],.E 7 9 6,
 .D 8 7,.v 9 0,.o 10 .nilCheck [.T 9],.E 11 10 10,.D 12 11,
 .H 13 12,.o 14 (.bT .add) [.T 8,.T 13],.w 15 1,.o 16 (.bT .add) [.T 14,.T 15],.w 4 16] (some []) [0]) .ret)) }
def s62:aA:={ eJ:=62,mode:=.oP,az:=2,aG:=1,dj:=[],results:=[],body:=
 (.s [.B 3 0 6 1] [] (.block 0 (.s [.e 5 0 3,.l 6 0 (.T 5),
 .o 7 (.bT .eql) [.T 6,.i 3],.w 8 7,.vy 9 0 8,.ey 10 1 3 8,.y 11 (.ak 0 false 1 false) [.T 10] 8,
 .y 12 (.call 59) [.T 9,.T 11] 8,.o 13 .pick [.T 8,.T 12,.b false],.w 4 13] [9,10,11] (.cond (.T 4) [] (.r [
 .v 14 0,.v 15 0,.e 16 1 3,.l 17 0 (.T 16),.c 18 57 [.T 15,.T 17],
 .v 19 0,.e 20 2 3,.l 21 0 (.T 20),.c 22 57 [.T 19,.T 21],
 .c 23 56 [.T 14,.i 2,.T 18,.T 22,.i 0]] (some []) [0,3,23]) [] (.s [.e 25 0 3,
 .l 26 0 (.T 25),.o 27 (.bT .eql) [.T 26,.i 6],.w 28 27,.vy 29 0 28,
 .ey 30 1 3 28,.y 31 (.ak 0 false 1 false) [.T 30] 28,.y 32 (.call 59) [.T 29,.T 31] 28,.o 33 .pick [.T 28,.T 32,.b false],
 .w 24 33] [29,30,31] (.cond (.T 24) [] (.r [.v 34 0,.v 35 0,.e 36 1 3,
 .l 37 0 (.T 36),.c 38 57 [.T 35,.T 37],.v 39 0,.e 40 2 3,
 .l 41 0 (.T 40),.c 42 57 [.T 39,.T 41],.e 43 3 3,.l 44 0 (.T 43),
 .c 45 56 [.T 34,.i 3,.T 38,.T 42,.T 44]] (some []) [0,3,45]) [] (.s [.e 47 0 3,
 .l 48 0 (.T 47),.o 49 (.bT .eql) [.T 48,.i 8],.w 50 49,.vy 51 0 50,
 .ey 52 1 3 50,.y 53 (.ak 0 false 1 false) [.T 52] 50,.y 54 (.call 59) [.T 51,.T 53] 50,.o 55 .pick [.T 50,.T 54,.b false],
 .w 46 55] [51,52,53] (.cond (.T 46) [] (.r [.v 56 0,.v 57 0,.e 58 1 3,
 .l 59 0 (.T 58),.c 60 57 [.T 57,.T 59],.v 61 0,.e 62 2 3,
 .l 63 0 (.T 62),.c 64 57 [.T 61,.T 63],
 .c 65 56 [.T 56,.i 3,.T 60,.T 64,.i 0]] (some []) [0,3,65]) [] (.s [.e 67 0 3,
 .l 68 0 (.T 67),.o 69 (.bT .eql) [.T 68,.i 7],.w 70 69,.vy 71 0 70,
 .ey 72 2 3 70,.y 73 (.ak 0 false 1 false) [.T 72] 70,.y 74 (.call 59) [.T 71,.T 73] 70,.o 75 .pick [.T 70,.T 74,.b false],
 .w 66 75] [71,72,73] (.cond (.T 66) [] (.r [.v 76 0,.v 77 0,.e 78 1 3,
 .l 79 0 (.T 78),.c 80 57 [.T 77,.T 79],.v 81 0,.e 82 2 3,
 .l 83 0 (.T 82),.c 84 57 [.T 81,.T 83],.e 85 3 3,.l 86 0 (.T 85),
 .c 87 56 [.T 76,.i 4,.T 80,.T 84,.T 86]] (some []) [0,3,87]) [] (.s [.e 89 0 3,
 .l 90 0 (.T 89),.o 91 (.bT .eql) [.T 90,.i 9],.w 92 91,.vy 93 0 92,
 .ey 94 3 3 92,.y 95 (.ak 0 false 1 false) [.T 94] 92,.y 96 (.call 59) [.T 93,.T 95] 92,.o 97 .pick [.T 92,.T 96,.b false],
 .w 88 97] [93,94,95] (.cond (.T 88) [] (.r [.v 98 0,.v 99 0,.e 100 1 3,
 .l 101 0 (.T 100),.c 102 57 [.T 99,.T 101],.v 103 0,.e 104 3 3,
 .l 105 0 (.T 104),.c 106 57 [.T 103,.T 105],
 .c 107 56 [.T 98,.i 4,.T 102,.T 106,.i 0]] (some []) [0,3,107]) [0,3] .skip)))))))))))) }
def Va:aX:=
 (.seq (.s [.v 133 12,.e 134 5 7,.l 135 1 (.T 134),.H 136 135,
 .o 137 (.bT .lss) [.T 133,.T 136]] [] (.w 137 [11,12] 1)) (.seq (.block 2 (.seq (.r [
 .A 140 2 7 9,.e 141 5 7,.l 142 1 (.T 141),.v 143 12,
 .o 144 (.indexAddr 1) [.T 142,.T 143],.D 145 144,.c 146 88 [.T 140,.T 145]] (some []) []) (.cond (.T 146) [] (.g [
 .w 147 10,.v 148 11,.v 149 12,.o 150 (.bT .add) [.T 148,.T 149],.v 151 2,.e 152 5 7,
 .l 153 1 (.T 152),.v 154 12,.o 155 (.indexAddr 1) [.T 153,.T 154],.D 156 155,
 .o 157 (.bT .add) [.T 151,.T 156],
 .o 158 (.build [.i 0,.i 0,.i 0,.i 0] [(0,1),(1,1),(2,1)]) [.i 2,.T 150,.T 157],
 .o 159 (.lit 4 1 [.i 0,.i 0,.i 0,.i 0] [0]) [.T 158],.o 160 (.append 4 32) [.T 147,.T 159],.w 10 160] []) []
 .skip))) (.g [.w 138 12,.o 139 (.bT .add) [.T 138,.i 1],.w 12 139] [])))
def Nu:aA:={ eJ:=63,mode:=.pure,az:=4,aG:=3,dj:=[],results:=[.tmp 8 true],body:=
 (.s [.B 4 0 5 0,.B 7 1 6 3,.o 8 .move [.const .U]] [8] (.s [.e 13 2 4,
 .l 14 0 (.T 13),.v 15 1,.o 16 (.indexAddr 7) [.T 14,.T 15],.L 17 7 16,
 .G 9 2 [.i 0,.U,.bool false,.i 0,.i 0,.i 0,.U],.Q 2 7 9 17] [] (.s [
 .o 10 .move [.const .U]] [] (.seq (.s [.e 18 0 7,.l 19 1 (.T 18)] [] (.block 0 (.s [.I 21 .eql 19 3,.w 20 21] [] (.cond (.T 20) [1,4,19] (.s [
 .o 22 (.ak 2 true 7 false) [.T 9],.e 23 1 7,.l 24 1 (.T 23),.c 25 88 [.T 22,.T 24]] []
 (.cond (.T 25) [] (.g [.w 26 10,.v 27 2,.e 28 1 7,.l 29 1 (.T 28),
 .o 30 (.bT .add) [.T 27,.T 29],.w 31 2,.E 32 2 7,.l 33 1 (.T 32),.o 34 (.bT .add) [.T 31,.T 33],
 .o 35 (.build [.i 0,.i 0,.i 0,.i 0] [(0,1),(1,1),(2,1)]) [.i 2,.T 30,.T 34],
 .o 36 (.lit 4 1 [.i 0,.i 0,.i 0,.i 0] [0]) [.T 35],.o 37 (.append 4 32) [.T 26,.T 36],.w 10 37] []) [2,7]
 .skip)) [] (.s [.I 39 .eql 19 6,.w 38 39] [] (.cond (.T 38) [1,4,19] (.s [
 .o 40 (.ak 2 true 7 false) [.T 9],.e 41 1 7,.l 42 1 (.T 41),.c 43 88 [.T 40,.T 42]] []
 (.cond (.T 43) [] (.g [.w 44 10,.v 45 2,.e 46 1 7,.l 47 1 (.T 46),
 .o 48 (.bT .add) [.T 45,.T 47],.w 49 2,.e 50 2 7,.l 51 1 (.T 50),.o 52 (.bT .add) [.T 49,.T 51],
 .E 53 3 7,.l 54 1 (.T 53),
 .o 55 (.build [.i 0,.i 0,.i 0,.i 0] [(0,1),(1,1),(2,1),(3,1)]) [.i 3,.T 48,.T 52,.T 54],
 .o 56 (.lit 4 1 [.i 0,.i 0,.i 0,.i 0] [0]) [.T 55],.o 57 (.append 4 32) [.T 44,.T 56],.w 10 57] []) [2,7]
 .skip)) [] (.s [.I 59 .eql 19 8,.w 58 59] [] (.cond (.T 58) [1,4,19] (.s [
 .o 60 (.ak 2 true 7 false) [.T 9],.e 61 1 7,.l 62 1 (.T 61),.c 63 88 [.T 60,.T 62]] []
 (.cond (.T 63) [] (.g [.w 64 10,.v 65 2,.e 66 1 7,.l 67 1 (.T 66),
 .o 68 (.bT .add) [.T 65,.T 67],.w 69 2,.E 70 2 7,.l 71 1 (.T 70),.o 72 (.bT .add) [.T 69,.T 71],
 .o 73 (.build [.i 0,.i 0,.i 0,.i 0] [(0,1),(1,1),(2,1)]) [.i 3,.T 68,.T 72],
 .o 74 (.lit 4 1 [.i 0,.i 0,.i 0,.i 0] [0]) [.T 73],.o 75 (.append 4 32) [.T 64,.T 74],.w 10 75] []) [2,7]
 .skip)) [] (.s [.I 77 .eql 19 7,.w 76 77] [] (.cond (.T 76) [1,4,19] (.s [
 .o 78 (.ak 2 true 7 false) [.T 9],.e 79 2 7,.l 80 1 (.T 79),.c 81 88 [.T 78,.T 80]] []
 (.cond (.T 81) [] (.g [.w 82 10,.v 83 2,.e 84 1 7,.l 85 1 (.T 84),
 .o 86 (.bT .add) [.T 83,.T 85],.w 87 2,.e 88 2 7,.l 89 1 (.T 88),.o 90 (.bT .add) [.T 87,.T 89],
 .E 91 3 7,.l 92 1 (.T 91),
 .o 93 (.build [.i 0,.i 0,.i 0,.i 0] [(0,1),(1,1),(2,1),(3,1)]) [.i 4,.T 86,.T 90,.T 92],
 .o 94 (.lit 4 1 [.i 0,.i 0,.i 0,.i 0] [0]) [.T 93],.o 95 (.append 4 32) [.T 82,.T 94],.w 10 95] []) [2,7]
 .skip)) [] (.s [.I 97 .eql 19 9,.w 96 97] [] (.cond (.T 96) [1,4,19] (.s [
 .o 98 (.ak 2 true 7 false) [.T 9],.e 99 3 7,.l 100 1 (.T 99),.c 101 88 [.T 98,.T 100]] []
 (.cond (.T 101) [] (.g [.w 102 10,.v 103 2,.e 104 1 7,.l 105 1 (.T 104),
 .o 106 (.bT .add) [.T 103,.T 105],.w 107 2,.E 108 3 7,.l 109 1 (.T 108),
 .o 110 (.bT .add) [.T 107,.T 109],
 .o 111 (.build [.i 0,.i 0,.i 0,.i 0] [(0,1),(1,1),(2,1)]) [.i 4,.T 106,.T 110],
 .o 112 (.lit 4 1 [.i 0,.i 0,.i 0,.i 0] [0]) [.T 111],.o 113 (.append 4 32) [.T 102,.T 112],.w 10 113] []) [2,7]
 .skip)) [] (.seq (.s [.I 115 .eql 19 11,.w 114 115] [] (.cond (.t 114) [] .skip [114] (.g [
 .I 116 .eql 19 12,.w 114 116] []))) (.cond (.T 114) [1,4,9,19] (.g [.w 117 10,
 .w 118 2,.e 119 1 7,.l 120 1 (.T 119),.o 121 (.bT .add) [.T 118,.T 120],.E 122 4 7,
 .l 123 1 (.T 122),
 .o 124 (.build [.i 0,.i 0,.i 0,.i 0] [(0,1),(1,1),(2,1)]) [.i 1,.T 121,.T 123],
 .o 125 (.lit 4 1 [.i 0,.i 0,.i 0,.i 0] [0]) [.T 124],.o 126 (.append 4 32) [.T 117,.T 125],.w 10 126] []) []
 (.s [.I 128 .eql 19 13,.w 127 128] [] (.cond (.T 127) [1,19] (.s [
 .A 129 0 5 4,.e 130 3 7,.l 131 1 (.T 130),.c 132 30 [.T 129,.T 131],
 .w 11 132] [] (.seq (.s [.m 12 (.i 0)] [] (.block 1 (.loop Va))) (.s [
 .e 161 1 7,.l 162 1 (.T 161),.o 163 (.bT .geq) [.T 162,.i 0],.w 164 163,
 .y 165 (.ak 2 true 7 false) [.T 9] 164,.ey 166 1 7 164,.y 167 (.ak 1 false 1 false) [.T 166] 164,
 .y 168 (.call 88) [.T 165,.T 167] 164,.o 169 .pick [.T 164,.T 168,.b false]] [9,165,166,167] (.cond (.T 169) [] (.r [
 .w 170 10,.w 171 2,.e 172 1 7,.l 173 1 (.T 172),.o 174 (.bT .add) [.T 171,.T 173],
 .o 175 (.ak 0 true 5 false) [.T 4],.e 176 3 7,.l 177 1 (.T 176),.c 178 50 [.T 175,.T 177],
 .o 179 (.build [.i 0,.i 0,.i 0,.i 0] [(0,1),(1,1),(2,1)]) [.i 2,.T 174,.T 178],
 .o 180 (.lit 4 1 [.i 0,.i 0,.i 0,.i 0] [0]) [.T 179],.o 181 (.append 4 32) [.T 170,.T 180],
 .w 10 181] (some []) [7]) [2,4,7] .skip)))) [] (.s [.I 183 .eql 19 18,.w 182 183] []
 (.cond (.T 182) [19] (.s [.e 184 1 7,.l 185 1 (.T 184),
 .o 186 (.bT .geq) [.T 185,.i 0],.w 187 186,.y 188 (.ak 2 true 7 false) [.T 9] 187,.ey 189 1 7 187,
 .y 190 (.ak 1 false 1 false) [.T 189] 187,.y 191 (.call 88) [.T 188,.T 190] 187,.o 192 .pick [.T 187,.T 191,.b false]] [9,188,189,190]
 (.cond (.T 192) [] (.r [.w 193 10,.o 194 (.ak 0 true 5 false) [.T 4],.w 195 1,.c 196 50 [.T 194,.T 195],
 .w 197 2,.E 198 1 7,.l 199 1 (.T 198),.o 200 (.bT .add) [.T 197,.T 199],
 .o 201 (.build [.i 0,.i 0,.i 0,.i 0] [(0,1),(1,1),(2,1)]) [.i 2,.T 196,.T 200],
 .o 202 (.lit 4 1 [.i 0,.i 0,.i 0,.i 0] [0]) [.T 201],.o 203 (.append 4 32) [.T 193,.T 202],
 .w 10 203] (some []) []) [1,2,4,7] .skip)) [1] (.s [.I 205 .eql 19 19,.w 204 205] []
 (.cond (.T 204) [19] (.s [.o 206 (.ak 2 true 7 false) [.T 9],.e 207 1 7,.l 208 1 (.T 207),
 .c 209 88 [.T 206,.T 208]] [] (.cond (.T 209) [] (.r [.w 210 10,.w 211 2,.e 212 1 7,
 .l 213 1 (.T 212),.o 214 (.bT .add) [.T 211,.T 213],.o 215 (.ak 0 true 5 false) [.T 4],.e 216 4 7,
 .l 217 1 (.T 216),.c 218 51 [.T 215,.T 217],
 .o 219 (.build [.i 0,.i 0,.i 0,.i 0] [(0,1),(1,1),(2,1)]) [.i 2,.T 214,.T 218],
 .o 220 (.lit 4 1 [.i 0,.i 0,.i 0,.i 0] [0]) [.T 219],.o 221 (.append 4 32) [.T 210,.T 220],
 .w 10 221] (some []) [7]) [2,4,7] .skip)) [] (.s [.o 223 (.bT .eql) [.T 19,.i 20],.w 222 223] []
 (.cond (.T 222) [] (.s [.o 224 (.ak 2 true 7 false) [.T 9],.e 225 1 7,.l 226 1 (.T 225),
 .c 227 88 [.T 224,.T 226]] [] (.cond (.T 227) [] (.r [.w 228 10,.o 229 (.ak 0 true 5 false) [.T 4],
 .e 230 4 7,.l 231 1 (.T 230),.c 232 51 [.T 229,.T 231],.w 233 2,.e 234 1 7,
 .l 235 1 (.T 234),.o 236 (.bT .add) [.T 233,.T 235],
 .o 237 (.build [.i 0,.i 0,.i 0,.i 0] [(0,1),(1,1),(2,1)]) [.i 2,.T 232,.T 236],
 .o 238 (.lit 4 1 [.i 0,.i 0,.i 0,.i 0] [0]) [.T 237],.o 239 (.append 4 32) [.T 228,.T 238],
 .w 10 239] (some []) [7]) [2,4,7] .skip)) [2,4,7,9] .skip)))))))))))))))))))))) (.s [.w 240 10,
 .w 8 240] [] .ret))))) }
def Vb:aX:=
 (.seq (.s [.v 49 1,.v 50 0,.o 51 (.len .str) [.t 50],.J 52 .lss 49 51,.v 53 52,
 .vy 54 0 53,.vy 55 1 53,.y 56 .index [.t 54,.t 55] 53,.y 57 (.bT .neq) [.t 56,.const (.int .u8 10)] 53,
 .O 58 53 57] [49,50,51,52,53,54,55,56,57] (.w 58 [] 3)) (.block 4 (.g [
 .v 59 1,.I 60 .add 59 1,.v 1 60] [59,60])))
def Vc:aX:=
 (.seq (.s [.v 5 1,.v 6 0,.o 7 (.len .str) [.t 6],.J 8 .lss 5 7] [5,6,7] (.w 8 [0] 0)) (.block 1 (.block 2 (.s [.v 11 0,.v 12 1,.o 13 .index [.t 11,.t 12],
 .o 14 (.bT .eql) [.t 13,.const (.int .u8 32)],.v 15 14,.vz 16 0 15,.vz 17 1 15,.z 18 .index [.t 16,.t 17] 15,
 .z 19 (.bT .eql) [.t 18,.const (.int .u8 9)] 15,.P 20 15 19,.v 21 20,.vz 22 0 21,
 .vz 23 1 21,.z 24 .index [.t 22,.t 23] 21,.z 25 (.bT .eql) [.t 24,.const (.int .u8 10)] 21,.P 26 21 25,
 .v 27 26,.vz 28 0 27,.vz 29 1 27,.z 30 .index [.t 28,.t 29] 27,.z 31 (.bT .eql) [.t 30,.const (.int .u8 13)] 27,
 .P 32 27 31,.v 10 32] [11,12,13,14,15,16,17,18,19,20,21,22,23,24,25,26,27,28,29,30,31,32]
 (.cond (.T 10) [] (.g [.v 33 1,.I 34 .add 33 1,.v 1 34] [33,34]) [] (.s [
 .v 36 0,.o 37 (.len .str) [.t 36],.v 38 1,.J 39 .sub 37 38,.I 40 .geq 39 2,
 .v 41 40,.vy 42 0 41,.vy 43 1 41,.vy 44 1 41,.Iy 45 .add 44 2 41,
 .y 46 (.slice true true true false 0) [.t 42,.t 43,.t 45] 41,.y 47 (.bT .eql) [.t 46,.const (.str [47,47])] 41,
 .O 48 41 47,.v 35 48] [36,37,38,39,40,41,42,43,44,45,46,47,48] (.cond (.T 35) [] (.block 3
 (.loop Vb)) [0] (.s [.v 9 1,.v 4 9] [1,9] .ret))))))))
def s64:aA:={ eJ:=64,mode:=.pure,az:=2,aG:=0,dj:=[],results:=[.tmp 4 false],body:=
 (.s [.m 4 (.i 0)] [4] (.seq (.block 0 (.loop Vc)) (.s [.v 61 1,
 .v 4 61] [1,61] .ret))) }
def Nv:aA:={ eJ:=65,mode:=.pure,az:=2,aG:=1,dj:=[],results:=[.box 4 0 4 true,.tmp 5 false],body:=
 (.s [.o 4 (.cu 0 [.i 0,.str [],.i 0,.i 0]) [],.m 5 (.i 0)] [5] (.seq (.block 0 (.s [.v 13 0,.v 14 1,.o 15 .index [.t 13,.t 14],.a 16 89 15,.v 12 16] [13,14,15,16]
 (.cond (.T 12) [] (.s [.v 17 0,.v 18 1,.c 19 90 [.t 17,.t 18,.b false],
 .v 6 19] [17,18,19] (.s [.v 20 0,.v 21 1,.v 22 1,.v 23 6,
 .J 24 .add 22 23,.o 25 (.slice true true true false 0) [.t 20,.t 21,.t 24],.v 7 25] [0,20,21,22,23,24,25] (.seq (.s [.v 26 7,.a 27 91 26] [26] (.cond (.T 27) [] (.s [.v 28 7,.v 29 1,
 .o 30 (.build [.i 0,.str [],.i 0,.i 0] [(0,1),(1,1),(3,1)]) [.i 3,.t 28,.t 29],.v 31 6,
 .S 0 4 4 30,.v 5 31] [1,6,7,28,29,30,31] .ret) [] .skip)) (.seq (.s [.v 32 7,
 .a 33 92 32] [32] (.cond (.T 33) [] (.s [.v 34 7,.v 35 1,
 .o 36 (.build [.i 0,.str [],.i 0,.i 0] [(0,1),(1,1),(3,1)]) [.i 1,.t 34,.t 35],.v 37 6,
 .S 0 4 4 36,.v 5 37] [1,6,7,34,35,36,37] .ret) [1,6,7] .skip)) (.s [
 .o 38 (.build [.i 0,.str [],.i 0,.i 0] []) [],.S 0 4 4 38,.m 5 (.i 0)] [38] .ret))))) []
 (.s [.v 40 0,.v 41 1,.o 42 .index [.t 40,.t 41],.a 43 93 42,.v 39 43] [40,41,42,43]
 (.cond (.T 39) [] (.s [.v 44 0,.v 45 1,.c 46 90 [.t 44,.t 45,.b true],
 .v 8 46] [44,45,46] (.s [.v 48 0,.v 49 1,.v 50 1,.v 51 8,
 .J 52 .add 50 51,.o 53 (.slice true true true false 0) [.t 48,.t 49,.t 52],.a 54 94 53,.w 47 54,
 .x 55 0 47,.u 56 1 47,.v 9 55,.v 10 56] [48,49,50,51,52,53,55,56] (.seq (.s [
 .v 57 10,.o 58 (.un .not) [.t 57],.v 59 58,.vz 60 8 59,.Iz 61 .gtr 60 1 59,
 .vz 62 61 59,.vy 63 0 62,.vy 64 1 62,.y 65 .index [.t 63,.t 64] 62,.y 66 (.bT .eql) [.t 65,.const (.int .u8 48)] 62,
 .z 67 .pick [.t 62,.t 66,.b false] 59,.P 68 59 67,.v 69 68,.vz 70 1 69,
 .vz 71 8 69,.Jz 72 .add 70 71 69,.vz 73 0 69,.z 74 (.len .str) [.t 73] 69,.Jz 75 .lss 72 74 69,
 .vz 76 75 69,.vy 77 0 76,.vy 78 1 76,.vy 79 8 76,.Jy 80 .add 78 79 76,
 .y 81 .index [.t 77,.t 80] 76,.y 82 (.call 89) [.t 81] 76,.z 83 .pick [.t 76,.t 82,.b false] 69,
 .P 84 69 83] [0,10,57,58,59,60,61,62,63,64,65,66,67,68,69,70,71,72,73,74,75,76,77,78,79,80,81,82,83]
 (.cond (.T 84) [1,8,9] (.s [.o 85 (.build [.i 0,.str [],.i 0,.i 0] []) [],.S 0 4 4 85,
 .m 5 (.i 0)] [85] .ret) [] .skip)) (.s [.v 86 9,.v 87 1,
 .o 88 (.build [.i 0,.str [],.i 0,.i 0] [(0,1),(2,1),(3,1)]) [.i 2,.t 86,.t 87],.v 89 8,
 .S 0 4 4 88,.v 5 89] [1,8,9,86,87,88,89] .ret)))) [] .skip))))) (.s [.v 90 0,.v 91 1,
 .q 92 95 90 91,.v 11 92] [0,90,91,92] (.seq (.s [.v 93 11,
 .o 94 (.bT .eql) [.t 93,.const (.str [])]] [93] (.cond (.T 94) [1,11] (.s [
 .o 95 (.build [.i 0,.str [],.i 0,.i 0] []) [],.S 0 4 4 95,.m 5 (.i 0)] [95] .ret) []
 .skip)) (.s [.v 96 11,.v 97 1,
 .o 98 (.build [.i 0,.str [],.i 0,.i 0] [(0,1),(1,1),(3,1)]) [.i 4,.t 96,.t 97],.v 99 11,
 .o 100 (.len .str) [.t 99],.S 0 4 4 98,.v 5 100] [1,11,96,97,98,99,100] .ret))))) }
def s66:aA:={ eJ:=66,mode:=.oP,az:=1,aG:=1,dj:=[],results:=[.tmp 2 false],body:=
 (.s [.o 2 .move [.const (.str [])]] [2] (.s [.v 4 0,.a 5 33 4,
 .o 3 (.cu 0 [.i 0,.str [],.i 0,.i 0]) [],.S 0 4 3 5] [4,5] (.seq (.s [.v 6 0,
 .a 7 32 6,.v 8 7,.ey 9 0 3 8,.ky 10 0 9 8,
 .Iy 11 .eql 10 1 8,.O 12 8 11] [6,7,8,9,10,11] (.cond (.T 12) [] (.s [
 .v 13 0,.N 14 13,.E 15 1 14,.D 16 15,
 .I 17 .add 16 1,.N 18 13,.E 19 1 18,.R 1 19 17] [0,13,16,17] (.s [.e 20 1 3,.k 21 0 20,.v 2 21] [3,20,21] .ret)) [3] .skip)) (.s [
 .v 22 0,.c 23 35 [.t 22,.i 2]] [0,22,23] (.s [.o 2 .move [.const (.str [])]] [] .ret))))) }
def Ve:aX:=
 (.seq (.s [.v 6 0,.c 7 34 [.t 6,.const (.str [91])]] [6] (.w 7 [] 0)) (.block 1 (.seq (.s [.v 8 3,.I 9 .eql 8 3] [8] (.cond (.T 9) [3] (.s [.v 10 0,
 .c 11 35 [.t 10,.i 4]] [0,10,11] (.s [.o 12 (.build [.str [],.i 0] []) [],
 .S 0 2 2 12] [12] .ret)) [] .skip)) (.s [.v 13 0,.N 14 13,.E 15 1 14,
 .D 16 15,.I 17 .add 16 1,.N 18 13,.E 19 1 18,
 .R 1 19 17] [13,16,17] (.g [.v 20 3,.I 21 .add 20 1,
 .v 3 21] [20,21])))))
def IS:aX:=
 (.seq (.s [.v 43 5,.v 44 3,.J 45 .lss 43 44] [43,44] (.w 45 [0,3,5] 3))
 (.seq (.block 4 (.g [.v 48 0,.c 49 38 [.t 48,.const (.str [93])]] [48,49])) (.g [.v 46 5,
 .I 47 .add 46 1,.v 5 47] [46,47])))
def s67:aA:={ eJ:=67,mode:=.oP,az:=1,aG:=2,dj:=[],results:=[.box 2 0 2 true],body:=
 (.s [.o 2 (.cu 0 [.str [],.i 0]) []] [] (.s [.m 3 (.i 0)] [] (.seq (.block 0
 (.loop Ve)) (.s [.v 22 3,.o 23 (.build [.str [],.i 0] [(1,1)]) [.t 22],.o 4 (.cu 1 [.str [],.i 0]) [],
 .S 1 2 4 23] [22,23] (.seq (.block 2 (.seq (.s [.v 28 0,.c 29 34 [.t 28,.const (.str [105,110,116])],
 .v 27 29] [28,29] (.cond (.t 27) [] .skip [27] (.g [.v 30 0,.c 31 34 [.t 30,.const (.str [98,111,111,108])],
 .v 27 31] [30,31]))) (.cond (.T 27) [] (.s [.v 32 0,.a 33 33 32,.o 34 (.field 1 1 false) [.t 33],
 .e 35 0 4,.S 1 1 35 34] [32,33,34,35] (.g [.v 36 0,.N 37 36,
 .E 38 1 37,.D 39 38,.I 40 .add 39 1,.N 41 36,
 .E 42 1 41,.R 1 42 40] [36,39,40])) [] (.g [.v 24 0,.a 25 66 24,
 .e 26 0 4,.S 1 1 26 25] [24,25,26])))) (.seq (.s [.m 5 (.i 0)] [] (.block 3
 (.loop IS))) (.s [.A 50 1 2 4,.S 0 2 2 50] [4,50] .ret))))))) }
def Vf:aX:=
 (.seq (.s [.v 6 0,.a 7 32 6,.v 8 7,.vy 9 0 8,.y 10 (.call 34) [.t 9,.const (.str [125])] 8,
 .y 11 (.un .not) [.t 10] 8,.O 12 8 11] [6,7,8,9,10,11] (.w 12 [] 0)) (.block 1 (.g [
 .w 13 3,.v 14 0,.a 15 97 14,
 .o 16 (.lit 9 1 [.i 0,.str [],.str [],.i 0,.U,.U,.U,.i 0,.i 0] [0]) [.T 15],.o 17 (.append 9 136) [.T 13,.T 16],
 .w 3 17] [14])))
def s68:aA:={ eJ:=68,mode:=.oP,az:=1,aG:=0,dj:=[],results:=[.tmp 2 true],body:=
 (.s [.o 2 .move [.const .U]] [2] (.s [.o 3 .move [.const .U]] [] (.s [.v 4 0,
 .c 5 96 [.t 4,.const (.str [123])]] [4,5] (.seq (.block 0 (.loop Vf)) (.s [.v 18 0,
 .c 19 98 [.t 18,.const (.str [125])]] [0,18,19] (.s [.w 20 3,.w 2 20] [] .ret)))))) }
def Vg:aX:=
 (.seq (.s [.v 29 6,.v 30 5,.J 31 .lss 29 30] [29,30] (.w 31 [6] 2)) (.seq
 (.block 3 (.seq (.r [.v 34 4,.v 35 6,.X 36 1 34 35,.D 37 36,
 .v 38 4,.v 39 5,.X 40 1 38 39,.D 41 40,
 .J 42 .eql 37 41] (some []) [35,37,39,41]) (.cond (.T 42) [4,6] (.s [.o 43 (.build [.U,.U,.U,.i 0] []) [],
 .e 44 0 1,.k 45 0 44,.v 46 5,.X 47 3 45 46,.E 48 2 47,
 .D 49 48,.a 50 99 49,.Q 1 4 2 43,.S 2 2 3 50] [1,5,44,46,49,50] .ret) []
 .skip))) (.g [.v 32 6,.I 33 .add 32 1,.v 6 33] [32,33])))
def Vh:aX:=
 (.seq (.s [.v 23 5,.v 24 4,.H 25 24,.J 26 .lss 23 25] [23,25] (.w 26 [5] 0)) (.seq (.block 1 (.s [.m 6 (.i 0)] [] (.block 2 (.loop Vg)))) (.g [.v 27 5,
 .I 28 .add 27 1,.v 5 28] [27,28])))
def Vi:aX:=
 (.seq (.s [.v 52 8,.e 53 0 1,.k 54 0 53,.H 55 54,
 .J 56 .lss 52 55] [52,53,55] (.w 56 [8] 4)) (.seq (.block 5 (.s [.v 60 4,
 .e 61 0 1,.k 62 0 61,.v 63 8,.X 64 3 62 63,.E 65 1 64,
 .D 66 65,.c 67 100 [.T 60,.T 66],.w 59 67,.x 68 0 59,.u 69 1 59,
 .G 10 4 [.i 0,.i 0],.w 9 68,.S 4 2 10 69] [61,63,69] (.seq (.s [
 .e 70 0 10,.k 71 4 70,.I 72 .neq 71 0] [70,71] (.cond (.T 72) [1,4,7,8,9]
 (.seq (.r [.o 73 (.build [.U,.U,.U,.i 0] []) [],.A 74 4 2 10,.Q 1 4 2 73,
 .S 2 2 3 74] (some []) [10,74]) .ret) [10] .skip)) (.r [.e 75 0 7,.o 76 (.ak 3 false 1 true) [.t 75],
 .v 77 4,.v 78 8,.X 79 1 77 78,.D 80 79,.w 81 9,
 .o 82 (.build [.str [],.U] [(0,1),(1,1)]) [.t 80,.T 81],.o 83 (.lit 2 1 [.str [],.U] [0]) [.T 82],.o 84 (.append 2 40) [.T 76,.T 83],
 .e 85 0 7,.Q 3 1 85 84] (some []) [75,78,80,85])))) (.g [.v 57 8,
 .I 58 .add 57 1,.v 8 58] [57,58])))
def Vj:aX:=
 (.seq (.s [.v 112 15,.v 113 13,.J 114 .lss 112 113] [112,113] (.w 114 [15] 8)) (.seq (.block 9 (.seq (.r [.e 117 2 1,.k 118 0 117,.v 119 15,
 .X 120 7 118 119,.E 121 0 120,.D 122 121,.e 123 0 14,
 .k 124 6 123,.J 125 .eql 122 124] (some []) [117,119,122,123,124]) (.cond (.T 125) [1,4,7,13,15] (.s [
 .o 126 (.build [.U,.U,.U,.i 0] []) [],.e 127 6 14,.k 128 6 127,.a 129 99 128,
 .Q 1 4 2 126,.S 2 2 3 129] [14,127,128,129] .ret) [] .skip))) (.g [.v 115 15,
 .I 116 .add 115 1,.v 15 116] [115,116])))
def Vk:aX:=
 (.seq (.s [.v 100 13,.e 101 2 1,.k 102 0 101,.H 103 102,
 .J 104 .lss 100 103] [100,101,103] (.w 104 [1,4,13] 6)) (.seq (.block 7 (.s [
 .e 107 2 1,.k 108 0 107,.v 109 13,.X 110 7 108 109,
 .L 111 7 110,.o 14 (.cu 6 [.str [],.U,.bool false,.str [],.i 0,.U,.i 0]) [],
 .Q 6 7 14 111] [107,109] (.seq (.s [.m 15 (.i 0)] [] (.block 8 (.loop Vj))) (.s [.v 131 4,.e 132 1 14,.k 133 6 132,.c 134 100 [.T 131,.T 133],
 .w 130 134,.x 135 0 130,.u 136 1 130,.G 17 7 [.i 0,.i 0],.w 16 135,
 .S 7 2 17 136] [132,136] (.seq (.s [.e 137 0 17,.k 138 7 137,
 .I 139 .neq 138 0] [137,138] (.cond (.T 139) [1,4,7,13,14,16] (.seq (.r [
 .o 140 (.build [.U,.U,.U,.i 0] []) [],.A 141 7 2 17,.Q 1 4 2 140,
 .S 2 2 3 141] (some []) [17,141]) .ret) [17] .skip)) (.s [.e 142 0 14,
 .k 143 6 142,.v 144 16,.e 145 2 14,.k 146 6 145,
 .o 147 (.build [.str [],.U,.bool false,.i 0,.i 0,.i 0] [(0,1),(1,1),(2,1)]) [.t 143,.T 144,.t 146],
 .o 18 (.cu 8 [.str [],.U,.bool false,.i 0,.i 0,.i 0]) [],.Q 8 6 18 147] [142,143,145,146] (.seq (.s [.e 148 2 14,.k 149 6 148] [148] (.cond (.T 149) [] (.s [.v 151 4,
 .e 152 3 14,.A 153 6 2 152,.c 154 101 [.T 151,.t 153],.w 150 154,
 .x 155 0 150,.u 156 1 150,.G 19 9 [.i 0,.i 0,.i 0],.S 9 3 19 155,
 .v 20 156] [152,153,155,156] (.seq (.s [.v 157 20,.o 158 (.un .not) [.t 157]] [20,157]
 (.cond (.T 158) [1,4,7,13,16,18,19] (.s [.o 159 (.build [.U,.U,.U,.i 0] []) [],.e 160 6 14,
 .k 161 6 160,.a 162 99 161,.Q 1 4 2 159,.S 2 2 3 162] [14,160,161,162]
 .ret) [] .skip)) (.g [.A 163 9 3 19,.e 164 3 18,.S 8 3 164 163] [19,163,164]))) []
 .skip)) (.seq (.s [.e 165 0 14,.k 166 6 165,
 .o 167 (.bT .eql) [.t 166,.const (.str [109,97,105,110])],.v 168 167,.y 169 .move [.T 16] 168,.Hy 170 169 168,
 .Iy 171 .eql 170 0 168,.O 172 168 171,.v 173 172,
 .ey 174 2 14 173,.ky 175 6 174 173,.y 176 (.un .not) [.t 175] 173,
 .O 177 173 176] [14,16,165,166,167,168,169,170,171,172,173,174,175,176] (.cond (.T 177) [] (.g [
 .v 178 13,.e 179 3 7,.S 3 1 179 178] [178,179]) [] .skip)) (.g [.e 180 2 7,
 .o 181 (.ak 3 false 1 true) [.t 180],.A 182 8 6 18,
 .o 183 (.lit 6 1 [.str [],.U,.bool false,.i 0,.i 0,.i 0] [0]) [.T 182],.o 184 (.append 6 72) [.T 181,.T 183],
 .e 185 2 7,.Q 3 1 185 184] [18,180,185]))))))))) (.g [.v 105 13,
 .I 106 .add 105 1,.v 13 106] [105,106])))
def s69:aA:={ eJ:=69,mode:=.pure,az:=1,aG:=10,dj:=[],results:=[.box 2 1 4 true,.box 3 2 2 true],body:=
 (.s [.B 1 0 3 0,.G 2 1 [.U,.U,.U,.i 0],.G 3 2 [.i 0,.i 0]] []
 (.s [.A 21 0 3 1,.c 22 70 [.T 21],.w 4 22] [] (.seq (.s [
 .m 5 (.i 0)] [] (.block 0 (.loop Vh))) (.s [
 .o 51 (.build [.U,.U,.U,.i 0] [(3,1)]) [.const (.i (-1))],.G 7 3 [.U,.U,.U,.i 0],
 .Q 3 4 7 51] [] (.seq (.s [.m 8 (.i 0)] [] (.block 4 (.loop Vi))) (.s [
 .v 87 4,.e 88 1 1,.k 89 0 88,.c 90 100 [.T 87,.T 89],.w 86 90,
 .x 91 0 86,.u 92 1 86,.G 12 5 [.i 0,.i 0],.w 11 91,
 .S 5 2 12 92] [88,92] (.seq (.s [.e 93 0 12,.k 94 5 93,
 .I 95 .neq 94 0] [93,94] (.cond (.T 95) [1,4,7,11] (.seq (.r [
 .o 96 (.build [.U,.U,.U,.i 0] []) [],.A 97 5 2 12,.Q 1 4 2 96,
 .S 2 2 3 97] (some []) [12,97]) .ret) [12] .skip)) (.s [.w 98 11,.e 99 1 7,
 .Q 3 1 99 98] [99] (.seq (.s [.m 13 (.i 0)] [] (.block 6 (.loop Vk))) (.seq (.s [.e 186 3 7,.k 187 3 186,.I 188 .lss 187 0] [186,187]
 (.cond (.T 188) [7] (.s [.o 189 (.build [.U,.U,.U,.i 0] []) [],.c 190 99 [.i 0],
 .Q 1 4 2 189,.S 2 2 3 190] [190] .ret) [] .skip)) (.s [.A 191 3 4 7,
 .o 192 (.build [.i 0,.i 0] []) [],.Q 1 4 2 191,.S 2 2 3 192] [7,192] .ret))))))))))) }
def Vl:aX:=
 (.seq (.s [.v 5 4,.e 6 0 1,.k 7 0 6,.H 8 7,
 .J 9 .lss 5 8] [5,6,8] (.w 9 [1,4] 0)) (.seq (.block 1 (.g [.w 12 3,
 .e 13 0 1,.k 14 0 13,.v 15 4,.X 16 3 14 15,.E 17 0 16,
 .D 18 17,.o 19 (.lit 1 1 [.str []] [0]) [.t 18],.o 20 (.append 1 16) [.T 12,.T 19],.w 3 20] [13,15,18]))
 (.g [.v 10 4,.I 11 .add 10 1,.v 4 11] [10,11])))
def s70:aA:={ eJ:=70,mode:=.pure,az:=1,aG:=1,dj:=[],results:=[.tmp 2 true],body:=
 (.s [.B 1 0 3 0,.o 2 .move [.const .U]] [2] (.s [.o 3 .move [.const .U]] [] (.seq (.s [
 .m 4 (.i 0)] [] (.block 0 (.loop Vl))) (.s [.w 21 3,.w 2 21] [] .ret)))) }
def IT:aX:=
 (.seq (.s [.v 7 6,.v 8 1,.H 9 8,.J 10 .lss 7 9,.v 11 10,
 .vy 12 0 11,.y 13 (.call 72) [.t 12] 11,.O 14 11 13] [7,9,10,11,12,13] (.w 14 [0,1,6] 0)) (.seq (.block 1 (.g [.w 17 5,.v 18 0,.v 19 1,.v 20 6,.X 21 9 19 20,
 .L 22 9 21,.p 23 102 18 22,
 .o 24 (.lit 9 1 [.i 0,.str [],.str [],.i 0,.U,.U,.U,.i 0,.i 0] [0]) [.T 23],.o 25 (.append 9 136) [.T 17,.T 24],
 .w 5 25] [18,20])) (.g [.v 15 6,.I 16 .add 15 1,.v 6 16] [15,16])))
def s71:aA:={ eJ:=71,mode:=.oP,az:=2,aG:=0,dj:=[],results:=[.tmp 4 true],body:=
 (.s [.o 4 .move [.const .U]] [4] (.s [.o 5 .move [.const .U]] [] (.seq (.s [
 .m 6 (.i 0)] [] (.block 0 (.loop IT))) (.s [.w 26 5,.w 4 26] [] .ret)))) }
def s72:aA:={ eJ:=72,mode:=.oP,az:=1,aG:=0,dj:=[],results:=[.tmp 2 false],body:=
 (.s [.m 2 (.b false)] [2] (.s [.v 3 0,.N 4 3,.E 5 12 4,
 .E 6 0 5,.D 7 6,.I 8 .eql 7 0,.v 2 8] [0,3,7,8] .ret)) }
def Nw:aX:=
 (.seq (.s [.v 21 6,.e 22 4 5,.k 23 0 22,.H 24 23,
 .J 25 .lss 21 24] [21,22,24] (.w 25 [6] 2)) (.seq (.block 3 (.g [.v 28 0,
 .e 29 4 5,.k 30 0 29,.v 31 6,.X 32 11 30 31,
 .L 33 11 32,.p 34 103 28 33] [28,29,31,34])) (.g [.v 26 6,
 .I 27 .add 26 1,.v 6 27] [26,27])))
def Nx:aX:=
 (.seq (.s [.v 109 10,.v 110 0,.N 111 110,.E 112 0 111,
 .D 113 112,.H 114 113,.J 115 .lss 109 114] [109,110,114] (.w 115 [9,10] 5)) (.seq (.block 6 (.r [.v 118 0,.N 119 118,.E 120 0 119,.D 121 120,
 .v 122 10,.v 123 0,.N 124 123,.E 125 0 124,.D 126 125,
 .v 127 10,.X 128 1 126 127,.D 129 128,.v 130 129,.vy 131 9 130,
 .vy 132 10 130,.y 133 (.indexAddr 1) [.T 131,.t 132] 130,.Dy 134 133 130,
 .O 135 130 134,.X 136 1 121 122,
 .R 1 136 135] (some []) [118,122,123,127,129,130,131,132,133,134,135])) (.g [.v 116 10,
 .I 117 .add 116 1,.v 10 117] [116,117])))
def qx:aX:=
 (.seq (.s [.v 11 4,.v 12 1,.H 13 12,.J 14 .lss 11 13] [11,13] (.w 14 [0,1,4] 0)) (.seq (.block 1 (.s [.v 17 1,.v 18 4,.X 19 9 17 18,
 .L 20 9 19,.o 5 (.cu 0 [.i 0,.str [],.str [],.i 0,.U,.U,.U,.i 0,.i 0]) [],
 .Q 0 9 5 20] [18] (.seq (.s [.m 6 (.i 0)] [] (.block 2 (.loop Nw))) (.s [
 .e 35 0 5,.k 36 0 35] [35] (.block 4 (.s [.I 38 .eql 36 1,
 .v 37 38] [38] (.cond (.T 37) [36] (.r [.v 39 0,.N 40 39,.E 41 0 40,
 .D 42 41,.e 43 8 5,.k 44 0 43,.X 45 1 42 44,
 .n (.store 1) [.T 45,.b false]] (some []) [5,39,43,44]) [] (.s [.I 47 .eql 36 2,
 .v 46 47] [47] (.cond (.T 46) [36] (.r [.v 48 0,.N 49 48,.E 50 0 49,
 .D 51 50,.e 52 8 5,.k 53 0 52,.X 54 1 51 53,
 .n (.store 1) [.T 54,.b true]] (some []) [5,48,52,53]) [] (.s [.I 56 .eql 36 3,
 .v 55 56] [56] (.cond (.T 55) [36] (.s [.e 57 8 5,.k 58 0 57,
 .I 59 .geq 58 0] [57,58] (.cond (.T 59) [] (.r [.v 60 0,.N 61 60,
 .E 62 0 61,.D 63 62,.e 64 8 5,.k 65 0 64,
 .X 66 1 63 65,.n (.store 1) [.T 66,.b true]] (some []) [5,60,64,65]) [5] .skip)) [] (.s [
 .I 68 .eql 36 7,.v 67 68] [68] (.cond (.T 67) [5,36] (.g [.v 69 0,
 .a 70 104 69] [69,70]) [] (.s [.I 72 .eql 36 6,.v 71 72] [72]
 (.cond (.T 71) [36] (.s [.v 73 0,.N 74 73,.E 75 0 74,.D 76 75,
 .o 77 (.kE 1 1) [.const .U,.T 76],.w 7 77] [73] (.s [.v 78 0,.e 79 5 5,
 .k 80 0 79,.p 81 73 78 80] [5,78,79,81] (.g [.v 82 0,.w 83 7,
 .N 84 82,.E 85 0 84,.n (.store 1) [.T 85,.T 83]] [82]))) [] (.s [
 .I 87 .eql 36 5,.v 86 87] [36,87] (.cond (.T 86) [] (.s [.v 88 0,
 .N 89 88,.E 90 0 89,.D 91 90,.o 92 (.kE 1 1) [.const .U,.T 91],
 .w 8 92] [88] (.s [.v 93 0,.e 94 5 5,.k 95 0 94,
 .p 96 73 93 95] [93,94,96] (.s [.v 97 0,.N 98 97,.E 99 0 98,
 .D 100 99,.w 9 100] [97] (.s [.v 101 0,.w 102 8,.N 103 101,
 .E 104 0 103,.n (.store 1) [.T 104,.T 102]] [101] (.s [.v 105 0,.e 106 6 5,
 .k 107 0 106,.p 108 73 105 107] [5,105,106,108] (.s [
 .m 10 (.i 0)] [] (.block 5 (.loop Nx)))))))) [5] .skip))))))))))))))))) (.g [.v 15 4,
 .I 16 .add 15 1,.v 4 16] [15,16])))
def s73:aA:={ eJ:=73,mode:=.SH,az:=2,aG:=1,dj:=[],results:=[],body:=
 (.s [.m 4 (.i 0)] [] (.block 0 (.loop qx))) }
def FZ:aA:={ eJ:=74,mode:=.SH,az:=2,aG:=1,dj:=[],results:=[],body:=
 (.s [.B 3 0 9 1] [] (.s [.e 14 0 3,.k 15 0 14] [14] (.block 0
 (.seq (.s [.I 17 .eql 15 2,.v 16 17] [17] (.cond (.t 16) [] .skip [16] (.g [
 .I 18 .eql 15 3,.v 16 18] [18]))) (.cond (.T 16) [15] (.s [.v 19 0,
 .e 20 4 3,.k 21 0 20,.Z 22 11 21 0,.L 23 11 22,
 .p 24 105 19 23,.v 4 24] [19,20,24] (.s [.e 25 8 3,.k 26 0 25,
 .I 27 .lss 26 0] [25,26] (.cond (.T 27) [] (.g [.v 28 0,.v 29 4,
 .e 30 8 3,.k 31 0 30,.o 32 (.bT .sub) [.const (.i (-1)),.t 31],
 .o 33 (.build [.i 0,.i 0,.i 0,.i 0,.i 0,.U] [(0,1),(1,1),(4,1)]) [.i 20,.t 29,.t 32],
 .p 34 75 28 33] [0,3,4,28,29,30,31,32,34]) [] (.g [.v 35 0,.e 36 8 3,
 .k 37 0 36,.v 38 4,
 .o 39 (.build [.i 0,.i 0,.i 0,.i 0,.i 0,.U] [(0,1),(1,1),(2,1)]) [.i 3,.t 37,.t 38],
 .p 40 75 35 39] [0,3,4,35,36,37,38,40])))) [] (.s [.I 42 .eql 15 4,
 .v 41 42] [42] (.cond (.T 41) [15] (.s [.v 43 0,.e 44 4 3,.k 45 0 44,
 .Z 46 11 45 0,.E 47 5 46,.D 48 47,.p 49 106 43 48,
 .w 5 49] [43,44] (.s [.v 50 0,.e 51 4 3,.k 52 0 51,
 .Z 53 11 52 1,.L 54 11 53,.p 55 105 50 54,.v 6 55] [50,51,55]
 (.s [.e 56 4 3,.k 57 0 56,.Z 58 11 57 0,
 .E 59 0 58,.D 60 59,.I 61 .eql 60 5] [56,60] (.cond (.T 61) [] (.r [
 .v 62 0,.w 63 5,.Z 64 1 63 0,.D 65 64,.v 66 6,
 .e 67 4 3,.k 68 0 67,.Z 69 11 68 0,.E 70 10 69,
 .D 71 70,
 .o 72 (.build [.i 0,.i 0,.i 0,.i 0,.i 0,.U] [(0,1),(1,1),(2,1),(3,1)]) [.i 7,.t 65,.t 66,.t 71],
 .p 73 75 62 72] (some []) [0,3,6,62,65,66,67,71,73]) [3] (.r [.v 74 0,.v 75 5,
 .Z 76 1 75 0,.D 77 76,.v 78 5,.Z 79 1 78 1,
 .D 80 79,.v 81 6,
 .o 82 (.build [.i 0,.i 0,.i 0,.i 0,.i 0,.U] [(0,1),(1,1),(2,1),(3,1)]) [.i 9,.t 77,.t 80,.t 81],
 .p 83 75 74 82] (some []) [0,5,6,74,77,80,81,83]))))) [] (.s [.I 85 .eql 15 5,
 .v 84 85] [85] (.cond (.T 84) [15] (.s [.v 86 0,.e 87 4 3,.k 88 0 87,
 .Z 89 11 88 0,.L 90 11 89,.p 91 105 86 90,.v 7 91] [86,87,91]
 (.s [.v 92 0,.v 93 7,
 .o 94 (.build [.i 0,.i 0,.i 0,.i 0,.i 0,.U] [(0,1),(1,1)]) [.i 17,.t 93],
 .p 95 75 92 94,.v 8 95] [7,92,93,95] (.s [.v 96 0,.N 97 96,
 .E 98 6 97,.E 99 6 98,.D 100 99,.v 101 8,.v 102 8,
 .I 103 .add 102 1,.X 104 6 100 101,.E 105 4 104,
 .R 1 105 103] [96,101,102,103] (.s [.v 106 0,.e 107 5 3,
 .k 108 0 107,.p 109 44 106 108] [106,107,109] (.s [.v 110 0,
 .o 111 (.build [.i 0,.i 0,.i 0,.i 0,.i 0,.U] [(0,1)]) [.i 16],.p 112 75 110 111,
 .v 9 112] [110,112] (.s [.v 113 0,.N 114 113,.E 115 6 114,
 .E 116 6 115,.D 117 116,.v 118 8,.v 119 9,
 .I 120 .add 119 1,.X 121 6 117 118,.E 122 3 121,
 .R 1 122 120] [8,113,118,119,120] (.s [.v 123 0,.e 124 6 3,
 .k 125 0 124,.p 126 44 123 125] [3,123,124,126] (.r [.v 127 0,.N 128 127,
 .E 129 6 128,.E 130 6 129,.D 131 130,.v 132 9,.v 133 0,
 .N 134 133,.E 135 6 134,.E 136 6 135,.D 137 136,.H 138 137,
 .X 139 6 131 132,.E 140 4 139,.R 1 140 138] (some []) [0,9,127,132,133,138])))))))) [] (.s [.I 142 .eql 15 6,.v 141 142] [142] (.cond (.T 141) [15] (.s [.v 143 0,
 .N 144 143,.E 145 6 144,.E 146 6 145,.D 147 146,.H 148 147,
 .v 10 148] [143,148] (.s [.v 149 0,.e 150 4 3,.k 151 0 150,
 .Z 152 11 151 0,.L 153 11 152,.p 154 105 149 153,
 .v 11 154] [149,150,154] (.s [.v 155 0,.v 156 11,
 .o 157 (.build [.i 0,.i 0,.i 0,.i 0,.i 0,.U] [(0,1),(1,1)]) [.i 17,.t 156],
 .p 158 75 155 157,.v 12 158] [11,155,156,158] (.s [.v 159 0,.N 160 159,
 .E 161 6 160,.E 162 6 161,.D 163 162,.v 164 12,.v 165 12,
 .I 166 .add 165 1,.X 167 6 163 164,.E 168 4 167,
 .R 1 168 166] [159,164,165,166] (.s [.v 169 0,.e 170 5 3,
 .k 171 0 170,.p 172 44 169 171] [3,169,170,172] (.s [.v 173 0,.v 174 10,
 .o 175 (.build [.i 0,.i 0,.i 0,.i 0,.i 0,.U] [(0,1),(4,1)]) [.i 16,.t 174],
 .p 176 75 173 175] [10,173,174,176] (.r [.v 177 0,.N 178 177,.E 179 6 178,
 .E 180 6 179,.D 181 180,.v 182 12,.v 183 0,.N 184 183,
 .E 185 6 184,.E 186 6 185,.D 187 186,.H 188 187,
 .X 189 6 181 182,.E 190 3 189,.R 1 190 188] (some []) [0,12,177,182,183,188]))))))) [] (.s [.I 192 .eql 15 7,.v 191 192] [192] (.cond (.T 191) [15] (.s [
 .o 13 .move [.const (.i (-1))]] [] (.seq (.s [.e 193 4 3,.k 194 0 193,
 .H 195 194,.I 196 .gtr 195 0] [193,195] (.cond (.T 196) [13] (.g [.v 197 0,
 .e 198 4 3,.k 199 0 198,.Z 200 11 199 0,
 .L 201 11 200,.p 202 105 197 201,.v 13 202] [3,197,198,202]) [3] .skip)) (.g [
 .v 203 0,.v 204 13,
 .o 205 (.build [.i 0,.i 0,.i 0,.i 0,.i 0,.U] [(0,1),(1,1)]) [.i 18,.t 204],
 .p 206 75 203 205] [0,13,203,204,206]))) [] (.s [.I 208 .eql 15 8,
 .v 207 208] [208] (.cond (.T 207) [15] (.g [.v 209 0,.v 210 0,.e 211 4 3,
 .k 212 0 211,.Z 213 11 212 0,.L 214 11 213,
 .p 215 105 210 214,
 .o 216 (.build [.i 0,.i 0,.i 0,.i 0,.i 0,.U] [(0,1),(1,1)]) [.i 15,.t 215],
 .p 217 75 209 216] [0,3,209,210,211,215,217]) [] (.s [.I 219 .eql 15 9,
 .v 218 219] [15,219] (.cond (.T 218) [] (.g [.v 220 0,.e 221 4 3,
 .k 222 0 221,.Z 223 11 222 0,.L 224 11 223,
 .p 225 105 220 224] [0,3,220,221,225]) [0,3] .skip))))))))))))))))) }
def s75:aA:={ eJ:=75,mode:=.SH,az:=2,aG:=1,dj:=[],results:=[.tmp 4 false],body:=
 (.s [.B 3 0 6 1,.m 4 (.i 0)] [4] (.seq (.r [.v 5 0,.v 6 0,
 .N 7 6,.E 8 6 7,.E 9 6 8,.D 10 9,.A 11 0 6 3,
 .o 12 (.lit 6 1 [.i 0,.i 0,.i 0,.i 0,.i 0,.U] [0]) [.T 11],.o 13 (.kE 6 64) [.T 10,.T 12],
 .N 14 5,.E 15 6 14,.E 16 6 15,.n (.store 1) [.T 16,.T 13]] (some []) [3,5,6]) (.s [
 .v 17 0,.N 18 17,.E 19 6 18,.E 20 6 19,.D 21 20,
 .H 22 21,.I 23 .sub 22 1,.v 4 23] [0,17,22,23] .ret))) }
def sS:aA:={ eJ:=76,mode:=.pure,az:=1,aG:=1,dj:=[],results:=[.tmp 2 false],body:=
 (.s [.B 1 0 6 0,.m 2 (.b false)] [2] (.s [.m 3 (.b false),
 .m 4 (.b false),.m 5 (.b false),.m 6 (.b false)] [] (.seq (.s [
 .e 7 0 1,.l 8 0 (.T 7)] [] (.block 0 (.seq (.s [.I 10 .eql 8 1,
 .w 9 10] [] (.cond (.t 9) [] .skip [9] (.s [.I 11 .eql 8 11,.w 9 11] []
 (.cond (.t 9) [] .skip [9] (.s [.I 12 .eql 8 19,.w 9 12] [] (.cond (.t 9) [] .skip [9] (.g [
 .I 13 .eql 8 20,.w 9 13] []))))))) (.cond (.T 9) [5,8] (.g [
 .m 5 (.b true)] []) [] (.seq (.s [.I 15 .eql 8 3,.w 14 15] []
 (.cond (.t 14) [] .skip [14] (.g [.I 16 .eql 8 10,.w 14 16] []))) (.cond (.T 14) [3,8] (.g [
 .m 3 (.b true)] []) [] (.s [.I 18 .eql 8 4,.w 17 18] []
 (.cond (.T 17) [3,4,5,8] (.g [.m 3 (.b true),.m 4 (.b true),.m 5 (.b true)] []) [] (.seq
 (.s [.I 20 .eql 8 5,.w 19 20] [] (.cond (.t 19) [] .skip [19] (.g [
 .I 21 .eql 8 12,.w 19 21] []))) (.cond (.T 19) [3,5,8] (.g [.m 3 (.b true),
 .m 5 (.b true)] []) [] (.seq (.s [.I 23 .eql 8 6,.w 22 23] []
 (.cond (.t 22) [] .skip [22] (.s [.I 24 .eql 8 7,.w 22 24] [] (.cond (.t 22) [] .skip [22] (.s [.I 25 .eql 8 8,.w 22 25] [] (.cond (.t 22) [] .skip [22] (.g [
 .I 26 .eql 8 9,.w 22 26] []))))))) (.cond (.T 22) [3,4,8] (.g [.m 3 (.b true),
 .m 4 (.b true)] []) [] (.s [.I 28 .eql 8 13,.w 27 28] []
 (.cond (.T 27) [4,6,8] (.g [.m 4 (.b true),.m 6 (.b true)] []) [] (.s [
 .I 30 .eql 8 17,.w 29 30] [] (.cond (.T 29) [4,5,8] (.g [.m 4 (.b true),
 .m 5 (.b true)] []) [] (.s [.o 32 (.bT .eql) [.T 8,.i 16],.w 31 32] []
 (.cond (.T 31) [3,4,5,6] (.s [.e 33 1 1,.l 34 0 (.T 33),.o 35 (.bT .eql) [.T 34,.i 0],
 .w 36 35,.ey 37 2 1 36,.y 38 (.ak 0 false 1 false) [.T 37] 36,.y 39 (.bT .eql) [.T 38,.i 0] 36,
 .o 40 .pick [.T 36,.T 39,.b false],.w 41 40,.ey 42 3 1 41,.y 43 (.ak 0 false 1 false) [.T 42] 41,
 .y 44 (.bT .eql) [.T 43,.i 0] 41,.o 45 .pick [.T 41,.T 44,.b false],.w 46 45,.Ey 47 5 1 46,
 .y 48 (.ak 0 false 1 false) [.T 47] 46,.Hy 49 48 46,.y 50 (.bT .eql) [.T 49,.i 0] 46,
 .o 51 .pick [.T 46,.T 50,.b false],.w 2 51] [1,37,38,42,43,47,48,49] .ret) [] .skip)))))))))))))))))) (.s [
 .w 52 3,.w 53 52,.ez 54 2 1 53,.z 55 (.ak 0 false 1 false) [.T 54] 53,
 .z 56 (.bT .eql) [.T 55,.i 0] 53,.o 57 .pick [.T 53,.b true,.T 56],.w 58 57,.y 59 .move [.T 4] 58,
 .y 60 .move [.T 59] 58,.ez 61 3 1 60,.z 62 (.ak 0 false 1 false) [.T 61] 60,.z 63 (.bT .eql) [.T 62,.i 0] 60,
 .y 64 .pick [.T 60,.b true,.T 63] 58,.o 65 .pick [.T 58,.T 64,.b false],.w 66 65,.y 67 .move [.T 5] 66,
 .y 68 .move [.T 67] 66,.ez 69 4 1 68,.z 70 (.ak 0 false 1 false) [.T 69] 68,.z 71 (.bT .eql) [.T 70,.i 0] 68,
 .y 72 .pick [.T 68,.b true,.T 71] 66,.o 73 .pick [.T 66,.T 72,.b false],.w 74 73,.y 75 .move [.T 6] 74,
 .y 76 .move [.T 75] 74,.Ez 77 5 1 76,.z 78 (.ak 0 false 1 false) [.T 77] 76,.Hz 79 78 76,
 .z 80 (.bT .eql) [.T 79,.i 0] 76,.y 81 .pick [.T 76,.b true,.T 80] 74,.o 82 .pick [.T 74,.T 81,.b false],
 .w 2 82] [1,4,5,6,54,55,59,60,61,62,63,67,68,69,70,71,75,76,77,78,79,80] .ret)))) }
def s77:aA:={ eJ:=77,mode:=.pure,az:=2,aG:=2,dj:=[],results:=[.box 4 1 3 true],body:=
 (.s [.B 2 0 7 0,.G 4 1 [.i 0,.i 0,.i 0]] [] (.seq (.s [.v 5 1,
 .o 6 (.bT .lss) [.T 5,.i 0],.w 7 6,.vz 8 1 7,.ez 9 1 2 7,.z 10 (.ak 0 false 1 false) [.T 9] 7,
 .Hz 11 10 7,.z 12 (.bT .geq) [.T 8,.T 11] 7,.o 13 .pick [.T 7,.b true,.T 12]] [8,9,10,11] (.cond (.T 13) [1,2] (.s [.o 14 (.build [.i 0,.i 0,.i 0] []) [],.Q 1 3 4 14] [] .ret) [] .skip)) (.s [
 .E 15 1 2,.l 16 0 (.T 15),.w 17 1,.o 18 (.indexAddr 3) [.T 16,.T 17],
 .L 19 3 18,.Q 1 3 4 19] [] .ret))) }
def s78:aA:={ eJ:=78,mode:=.pure,az:=0,aG:=1,dj:=[],results:=[.box 0 0 3 true],body:=
 (.s [.G 0 0 [.i 0,.i 0,.i 0]] [] (.s [
 .o 1 (.build [.i 0,.i 0,.i 0] [(0,1)]) [.i 1],.Q 0 3 0 1] [] .ret)) }
def s79:aA:={ eJ:=79,mode:=.pure,az:=0,aG:=1,dj:=[],results:=[.box 0 0 3 true],body:=
 (.s [.G 0 0 [.i 0,.i 0,.i 0]] [] (.s [
 .o 1 (.build [.i 0,.i 0,.i 0] [(0,1)]) [.i 2],.Q 0 3 0 1] [] .ret)) }
def wI:aA:={ eJ:=80,mode:=.pure,az:=4,aG:=3,dj:=[],results:=[.tmp 8 false],body:=
 (.s [.B 5 0 3 1,.B 6 1 3 2,.B 7 2 3 3,.m 8 (.b false)] [8] (.seq (.s [.w 9 0] [] (.block 0 (.seq (.s [.I 11 .eql 9 14,.w 10 11] []
 (.cond (.t 10) [] .skip [10] (.s [.I 12 .eql 9 15,.w 10 12] [] (.cond (.t 10) [] .skip [10] (.s [.I 13 .eql 9 16,.w 10 13] [] (.cond (.t 10) [] .skip [10] (.s [
 .I 14 .eql 9 17,.w 10 14] [] (.cond (.t 10) [] .skip [10] (.g [
 .I 15 .eql 9 18,.w 10 15] []))))))))) (.cond (.T 10) [9] (.seq (.r [
 .o 16 (.ak 0 true 3 false) [.T 5],.c 17 78 [],.o 18 (.lg (.flat [.int,.int,.int]) false) [.T 16,.T 17],.w 19 18,
 .y 20 (.ak 1 true 3 false) [.T 6] 19,.y 21 (.call 78) [] 19,.y 22 (.lg (.flat [.int,.int,.int]) false) [.T 20,.T 21] 19,
 .o 23 .pick [.t 19,.T 22,.b false],.w 24 23,.y 25 (.ak 2 true 3 false) [.T 7] 24,.y 26 (.call 78) [] 24,
 .y 27 (.lg (.flat [.int,.int,.int]) false) [.T 25,.T 26] 24,.o 28 .pick [.t 24,.T 27,.b false],
 .w 8 28] (some []) [6,7,19,20,21,24,25,26]) .ret) [] (.seq (.s [.I 30 .eql 9 19,
 .w 29 30] [] (.cond (.t 29) [] .skip [29] (.g [.I 31 .eql 9 20,.w 29 31] [])))
 (.cond (.T 29) [9] (.seq (.r [.o 32 (.ak 0 true 3 false) [.T 5],.c 33 79 [],.o 34 (.lg (.flat [.int,.int,.int]) false) [.T 32,.T 33],
 .w 35 34,.y 36 (.ak 1 true 3 false) [.T 6] 35,.y 37 (.call 78) [] 35,.y 38 (.lg (.flat [.int,.int,.int]) false) [.T 36,.T 37] 35,
 .o 39 .pick [.t 35,.T 38,.b false],.w 40 39,.y 41 (.ak 2 true 3 false) [.T 7] 40,.y 42 (.call 78) [] 40,
 .y 43 (.lg (.flat [.int,.int,.int]) false) [.T 41,.T 42] 40,.o 44 .pick [.t 40,.T 43,.b false],
 .w 8 44] (some []) [6,7,35,36,37,40,41,42]) .ret) [] (.seq (.s [.I 46 .eql 9 21,
 .w 45 46] [] (.cond (.t 45) [] .skip [45] (.g [.I 47 .eql 9 22,.w 45 47] [])))
 (.cond (.T 45) [9] (.seq (.r [.o 48 (.ak 0 true 3 false) [.T 5],.c 49 79 [],.o 50 (.lg (.flat [.int,.int,.int]) false) [.T 48,.T 49],
 .w 51 50,.y 52 (.ak 1 true 3 false) [.t 6] 51,.y 53 (.build [.i 0,.i 0,.i 0] []) [] 51,
 .y 54 (.lg (.flat [.int,.int,.int]) true) [.T 52,.T 53] 51,.o 55 .pick [.t 51,.T 54,.b false],.w 56 55,
 .y 57 (.ak 1 true 3 false) [.t 6] 56,.y 58 (.ak 2 true 3 false) [.T 7] 56,.y 59 (.lg (.flat [.int,.int,.int]) false) [.T 57,.T 58] 56,
 .o 60 .pick [.t 56,.T 59,.b false],.w 8 60] (some []) [6,7,51,52,53,56,57,58]) .ret) [] (.seq (.s [
 .I 62 .eql 9 23,.w 61 62] [] (.cond (.t 61) [9] .skip [61] (.g [
 .o 63 (.bT .eql) [.T 9,.i 24],.w 61 63] []))) (.cond (.T 61) [] (.seq (.r [.o 64 (.ak 0 true 3 false) [.T 5],
 .c 65 79 [],.o 66 (.lg (.flat [.int,.int,.int]) false) [.T 64,.T 65],.w 67 66,.y 68 (.ak 1 true 3 false) [.T 6] 67,
 .y 69 (.call 79) [] 67,.y 70 (.lg (.flat [.int,.int,.int]) false) [.T 68,.T 69] 67,.o 71 .pick [.t 67,.T 70,.b false],.w 72 71,
 .y 73 (.ak 2 true 3 false) [.T 7] 72,.y 74 (.call 79) [] 72,.y 75 (.lg (.flat [.int,.int,.int]) false) [.T 73,.T 74] 72,
 .o 76 .pick [.t 72,.T 75,.b false],.w 8 76] (some []) [6,7,67,68,69,72,73,74]) .ret) [5,6,7] .skip)))))))))) (.s [
 .m 8 (.b false)] [] .ret))) }
def ZB:aA:={ eJ:=81,mode:=.pure,az:=3,aG:=3,dj:=[],results:=[.box 6 2 3 true],body:=
 (.s [.B 3 0 5 0,.B 4 1 3 1,.G 6 2 [.i 0,.i 0,.i 0]] [] (.seq (.s [
 .e 7 0 4,.l 8 1 (.T 7),.o 9 (.bT .neq) [.T 8,.i 3],.w 10 9,
 .ez 11 2 4 10,.z 12 (.ak 1 false 1 false) [.T 11] 10,.z 13 (.bT .neq) [.T 12,.i 0] 10,
 .o 14 .pick [.T 10,.b true,.T 13],.w 15 14,.ez 16 1 4 15,.z 17 (.ak 1 false 1 false) [.T 16] 15,
 .z 18 (.bT .lss) [.T 17,.i 0] 15,.o 19 .pick [.T 15,.b true,.T 18],.w 20 19,.ez 21 1 4 20,
 .z 22 (.ak 1 false 1 false) [.T 21] 20,.ez 23 0 3 20,.z 24 (.ak 0 false 1 false) [.T 23] 20,.Hz 25 24 20,
 .z 26 (.bT .geq) [.T 22,.T 25] 20,.o 27 .pick [.T 20,.b true,.T 26],.w 28 27,.vz 29 2 28,
 .z 30 (.bT .lss) [.T 29,.i 0] 28,.o 31 .pick [.T 28,.b true,.T 30],.w 32 31,.vz 33 2 32,
 .ez 34 0 3 32,.z 35 (.ak 0 false 1 false) [.T 34] 32,.ez 36 1 4 32,.z 37 (.ak 1 false 1 false) [.T 36] 32,
 .z 38 (.indexAddr 2) [.T 35,.T 37] 32,.Ez 39 1 38 32,.Dz 40 39 32,.Hz 41 40 32,
 .z 42 (.bT .geq) [.T 33,.T 41] 32,.o 43 .pick [.T 32,.b true,.T 42]] [11,12,16,17,21,22,23,24,25,29,33,34,35,36,37,38,39,40,41]
 (.cond (.T 43) [2,3,4] (.s [.o 44 (.build [.i 0,.i 0,.i 0] []) [],.Q 2 3 6 44] [] .ret) [] .skip))
 (.s [.E 45 0 3,.l 46 0 (.T 45),.E 47 1 4,.l 48 1 (.T 47),
 .o 49 (.indexAddr 2) [.T 46,.T 48],.E 50 1 49,.D 51 50,.w 52 2,.o 53 (.indexAddr 4) [.T 51,.T 52],
 .E 54 1 53,.L 55 3 54,.Q 2 3 6 55] [] .ret))) }
def s82:aA:={ eJ:=82,mode:=.pure,az:=1,aG:=2,dj:=[],results:=[.box 2 1 3 true],body:=
 (.s [.B 1 0 3 0,.G 2 1 [.i 0,.i 0,.i 0]] [] (.s [.e 3 0 1,
 .l 4 0 (.T 3),.e 5 1 1,.l 6 0 (.T 5),.E 7 2 1,
 .l 8 0 (.T 7),.o 9 (.bT .sub) [.T 8,.i 1],
 .o 10 (.build [.i 0,.i 0,.i 0] [(0,1),(1,1),(2,1)]) [.T 4,.T 6,.T 9],.Q 1 3 2 10] [] .ret)) }
def s83:aA:={ eJ:=83,mode:=.pure,az:=4,aG:=2,dj:=[],results:=[.tmp 8 false],body:=
 (.s [.B 4 0 5 0,.B 7 1 3 3,.m 8 (.b false)] [8] (.seq (.r [.v 9 2,
 .o 10 (.bT .geq) [.T 9,.i 0],.w 11 10,.vy 12 2 11,.ey 13 3 4 11,
 .y 14 (.ak 0 false 1 false) [.T 13] 11,.Hy 15 14 11,.y 16 (.bT .lss) [.T 12,.T 15] 11,.o 17 .pick [.t 11,.T 16,.b false],
 .w 18 17,.ey 19 3 4 18,.y 20 (.ak 0 false 1 false) [.T 19] 18,.vy 21 2 18,.y 22 (.indexAddr 4) [.T 20,.T 21] 18,
 .Ey 23 0 22 18,.Dy 24 23 18,.y 25 .move [.T 1] 18,.y 26 (.bT .eql) [.T 24,.T 25] 18,
 .o 27 .pick [.t 18,.T 26,.b false],.w 28 27,.ey 29 3 4 28,.y 30 (.ak 0 false 1 false) [.T 29] 28,
 .vy 31 2 28,.y 32 (.indexAddr 4) [.T 30,.T 31] 28,.Ey 33 1 32 28,.y 34 (.load true 3 false) [.T 33] 28,
 .y 35 (.ak 1 true 3 false) [.T 7] 28,.y 36 (.lg (.flat [.int,.int,.int]) false) [.T 34,.T 35] 28,.o 37 .pick [.t 28,.T 36,.b false],
 .w 8 37] (some []) [1,2,4,7,11,12,13,14,15,18,19,20,21,22,23,24,25,28,29,30,31,32,33,34,35]) .ret)) }
def Vm:aX:=
 (.seq (.s [.v 47 8,.e 48 5 5,.l 49 2 (.T 48),.H 50 49,
 .o 51 (.bT .lss) [.T 47,.T 50]] [] (.w 51 [8] 0)) (.seq (.block 1 (.seq (.r [.A 54 1 7 4,
 .e 55 5 5,.l 56 2 (.T 55),.v 57 8,.o 58 (.indexAddr 1) [.T 56,.T 57],
 .D 59 58,.c 60 77 [.T 54,.T 59],.G 9 4 [.i 0,.i 0,.i 0],
 .Q 4 3 9 60] (some []) []) (.seq (.r [.A 61 4 3 9,
 .o 62 (.build [.i 0,.i 0,.i 0] []) [],.o 63 (.lg (.flat [.int,.int,.int]) false) [.T 61,.T 62],.w 64 63,
 .z 65 (.ak 4 true 3 false) [.t 9] 64,.ez 66 1 7 64,.z 67 (.ak 3 false 1 false) [.T 66] 64,.vz 68 8 64,
 .z 69 (.indexAddr 3) [.T 67,.T 68] 64,.z 70 (.load true 3 false) [.T 69] 64,.z 71 (.lg (.flat [.int,.int,.int]) true) [.T 65,.T 70] 64,
 .o 72 .pick [.t 64,.b true,.T 71]] (some []) [9,64,65,66,67,68,69,70]) (.cond (.T 72) [4,5,7,8] (.s [
 .m 6 (.b false)] [] .ret) [] .skip)))) (.g [.w 52 8,.o 53 (.bT .add) [.T 52,.i 1],
 .w 8 53] [])))
def s84:aA:={ eJ:=84,mode:=.pure,az:=3,aG:=6,dj:=[],results:=[.tmp 6 false],body:=
 (.s [.B 3 0 5 0,.B 4 1 7 1,.B 5 2 6 2,.m 6 (.b false)] [6] (.seq (.s [.e 11 3 5,.l 12 2 (.T 11),.o 13 (.bT .lss) [.T 12,.i 0],.w 14 13,
 .ez 15 3 5 14,.z 16 (.ak 2 false 1 false) [.T 15] 14,.ez 17 2 3 14,.z 18 (.ak 0 false 1 false) [.T 17] 14,
 .Hz 19 18 14,.z 20 (.bT .geq) [.T 16,.T 19] 14,.o 21 .pick [.T 14,.b true,.T 20]] [15,16,17,18,19] (.cond (.T 21) [3,4,5]
 (.s [.m 6 (.b false)] [] .ret) [] .skip)) (.s [.E 22 2 3,
 .l 23 0 (.T 22),.e 24 3 5,.l 25 2 (.T 24),.o 26 (.indexAddr 7) [.T 23,.T 25],
 .L 27 7 26,.G 7 3 [.i 0,.U,.bool false,.i 0,.i 0,.i 0,.U],
 .Q 3 7 7 27] [] (.seq (.s [.e 28 0 7,.l 29 3 (.T 28),
 .o 30 (.bT .lss) [.T 29,.i 0],.w 31 30,.ez 32 0 7 31,.z 33 (.ak 3 false 1 false) [.T 32] 31,
 .ez 34 1 7 31,.z 35 (.ak 3 false 1 false) [.T 34] 31,.Hz 36 35 31,.z 37 (.bT .gtr) [.T 33,.T 36] 31,
 .o 38 .pick [.T 31,.b true,.T 37],.w 39 38,.ez 40 5 5 39,.z 41 (.ak 2 false 1 false) [.T 40] 39,
 .Hz 42 41 39,.ez 43 0 7 39,.z 44 (.ak 3 false 1 false) [.T 43] 39,.z 45 (.bT .neq) [.T 42,.T 44] 39,
 .o 46 .pick [.T 39,.b true,.T 45]] [32,33,34,35,36,40,41,42,43,44] (.cond (.T 46) [4,5,7] (.s [
 .m 6 (.b false)] [] .ret) [] .skip)) (.seq (.s [.m 8 (.i 0)] [] (.block 0 (.loop Vm)))
 (.seq (.s [.e 73 1 5,.l 74 2 (.T 73),.o 75 (.bT .eql) [.T 74,.const (.i (-1))]] []
 (.cond (.T 75) [4,5,7] (.s [.m 6 (.b true)] [] .ret) [] .skip)) (.s [.o 76 (.ak 1 true 7 false) [.T 4],
 .E 77 1 5,.l 78 2 (.T 77),.c 79 77 [.T 76,.T 78],
 .G 10 5 [.i 0,.i 0,.i 0],.Q 5 3 10 79] [] (.s [.e 80 2 7,
 .l 81 3 (.T 80),.w 82 81,.y 83 (.ak 5 true 3 false) [.t 10] 82,
 .y 84 (.build [.i 0,.i 0,.i 0] []) [] 82,.y 85 (.lg (.flat [.int,.int,.int]) true) [.T 83,.T 84] 82,
 .o 86 .pick [.T 82,.T 85,.b false],.w 87 86,.y 88 (.ak 5 true 3 false) [.T 10] 87,.Ey 89 3 7 87,
 .y 90 (.ak 3 true 3 false) [.T 89] 87,.y 91 (.lg (.flat [.int,.int,.int]) false) [.T 88,.T 90] 87,.o 92 .pick [.T 87,.T 91,.b false],
 .w 6 92] [7,10,83,84,88,89,90] .ret)))))))) }
def ZC:aA:={ eJ:=85,mode:=.pure,az:=2,aG:=2,dj:=[],results:=[.tmp 4 false],body:=
 (.s [.B 2 0 5 0,.B 3 1 3 1,.m 4 (.b false)] [4] (.seq (.s [
 .e 5 2 3,.l 6 1 (.T 5),.o 7 (.bT .lss) [.T 6,.i 0],.w 8 7,
 .ez 9 2 3 8,.z 10 (.ak 1 false 1 false) [.T 9] 8,.z 11 (.bT .gtr) [.T 10,.i 3] 8,
 .o 12 .pick [.T 8,.b true,.T 11]] [9,10] (.cond (.T 12) [2,3] (.s [.m 4 (.b false)] [] .ret) [] .skip))
 (.seq (.s [.e 13 0 3,.l 14 1 (.T 13)] [] (.block 0 (.seq (.s [
 .I 16 .eql 14 1,.w 15 16] [] (.cond (.t 15) [14] .skip [15] (.g [
 .o 17 (.bT .eql) [.T 14,.i 2],.w 15 17] []))) (.cond (.T 15) [2] (.s [.E 18 1 3,
 .l 19 1 (.T 18),.o 20 (.bT .eql) [.T 19,.i 0],.w 4 20] [] .ret) [] .skip)))) (.s [
 .e 21 0 3,.l 22 1 (.T 21),.o 23 (.bT .eql) [.T 22,.i 3],.w 24 23,
 .ey 25 1 3 24,.y 26 (.ak 1 false 1 false) [.T 25] 24,.y 27 (.bT .geq) [.T 26,.i 0] 24,
 .o 28 .pick [.T 24,.T 27,.b false],.w 29 28,.Ey 30 1 3 29,.y 31 (.ak 1 false 1 false) [.T 30] 29,
 .Ey 32 0 2 29,.y 33 (.ak 0 false 1 false) [.T 32] 29,.Hy 34 33 29,.y 35 (.bT .lss) [.T 31,.T 34] 29,
 .o 36 .pick [.T 29,.T 35,.b false],.w 4 36] [2,3,25,26,30,31,32,33,34] .ret)))) }
def s86:aA:={ eJ:=86,mode:=.pure,az:=1,aG:=1,dj:=[],results:=[.tmp 2 false],body:=
 (.s [.B 1 0 3 0,.m 2 (.b false)] [2] (.s [.e 3 0 1,
 .l 4 0 (.T 3),.o 5 (.bT .eql) [.T 4,.i 3],.w 6 5,.Ez 7 2 1 6,
 .z 8 (.ak 0 false 1 false) [.T 7] 6,.z 9 (.bT .gtr) [.T 8,.i 0] 6,.o 10 .pick [.T 6,.b true,.T 9],
 .w 2 10] [1,7,8] .ret)) }
def Ny:aX:=
 (.s [.J 73 .lss 72 71] [] (.seq (.w 73 [1,2,70,71,72] 0) (.seq (.block 1 (.s [
 .Y 74 6 70 72,.L 75 6 74,
 .G 7 2 [.i 0,.i 0,.i 0,.i 0,.i 0,.U],.Q 2 6 7 75] [] (.s [
 .A 76 0 5 2,.v 77 1,.o 78 (.ak 2 true 6 false) [.T 7],.c 79 108 [.T 76,.T 77,.T 78],
 .o 80 (.un .not) [.T 79]] [] (.cond (.T 80) [1,2,5,70,71,72] (.s [.m 4 (.b false)] [] .ret) [] .skip)))) (.g [
 .o 81 (.bT .add) [.T 72,.i 1],.w 72 81] []))))
def SQ:aA:={ eJ:=87,mode:=.pure,az:=2,aG:=3,dj:=[],results:=[.tmp 4 false],body:=
 (.s [.B 2 0 5 0,.m 4 (.b false)] [4] (.s [.e 9 2 2,
 .l 10 0 (.T 9),.v 11 1,.o 12 (.indexAddr 7) [.T 10,.T 11],.L 13 7 12,
 .G 5 1 [.i 0,.U,.bool false,.i 0,.i 0,.i 0,.U],.Q 1 7 5 13] [] (.seq (.s [.e 14 0 5,.l 15 1 (.T 14),.o 16 (.bT .lss) [.T 15,.i 0],.w 17 16,
 .ez 18 0 5 17,.z 19 (.ak 1 false 1 false) [.T 18] 17,.z 20 (.bT .gtr) [.T 19,.i 6] 17,
 .o 21 .pick [.T 17,.b true,.T 20],.w 22 21,.ez 23 0 5 22,.z 24 (.ak 1 false 1 false) [.T 23] 22,
 .ez 25 1 5 22,.z 26 (.ak 1 false 1 false) [.T 25] 22,.Hz 27 26 22,.z 28 (.bT .gtr) [.T 24,.T 27] 22,
 .o 29 .pick [.T 22,.b true,.T 28],.w 30 29,.ez 31 1 5 30,.z 32 (.ak 1 false 1 false) [.T 31] 30,
 .Hz 33 32 30,.z 34 (.bT .gtr) [.T 33,.i 4000] 30,.o 35 .pick [.T 30,.b true,.T 34],.w 36 35,
 .ez 37 6 5 36,.z 38 (.ak 1 false 1 false) [.T 37] 36,.Hz 39 38 36,.z 40 (.bT .eql) [.T 39,.i 0] 36,
 .o 41 .pick [.T 36,.b true,.T 40],.w 42 41,.z 43 (.ak 0 true 5 false) [.t 2] 42,.ez 44 1 5 42,
 .z 45 (.ak 1 false 1 false) [.T 44] 42,.z 46 (.call 53) [.T 43,.T 45] 42,.z 47 (.un .not) [.T 46] 42,
 .o 48 .pick [.T 42,.b true,.T 47]] [18,19,23,24,25,26,27,31,32,33,37,38,39,43,44,45,46] (.cond (.T 48) [1,2,5] (.s [
 .m 4 (.b false)] [] .ret) [] .skip)) (.seq (.seq (.r [.e 49 2 5,.l 50 1 (.T 49),
 .w 51 50,.y 52 (.ak 0 true 5 false) [.t 2] 51,.ey 53 3 5 51,.y 54 (.ak 1 true 3 false) [.T 53] 51,
 .y 55 (.call 85) [.T 52,.T 54] 51,.y 56 (.un .not) [.T 55] 51,.o 57 .pick [.t 51,.T 56,.b false],.w 58 57,
 .ez 59 2 5 58,.z 60 (.ak 1 false 1 false) [.T 59] 58,.z 61 (.un .not) [.T 60] 58,.z 62 .move [.T 61] 58,
 .ey 63 3 5 62,.y 64 (.ak 1 true 3 false) [.T 63] 62,.y 65 (.call 107) [] 62,
 .y 66 (.lg (.flat [.int,.int,.int]) true) [.T 64,.T 65] 62,.z 67 .pick [.t 62,.T 66,.b false] 58,
 .o 68 .pick [.t 58,.b true,.T 67]] (some []) [51,52,53,54,55,58,59,60,61,62,63,64,65,66]) (.cond (.T 68) [1,2,5] (.s [
 .m 4 (.b false)] [] .ret) [] .skip)) (.seq (.s [.e 69 6 5,.l 70 1 (.T 69),
 .h 71 70,.m 72 (.i 0)] [] (.block 0 (.loop Ny))) (.s [.e 82 6 5,
 .l 83 1 (.T 82),.E 84 6 5,.l 85 1 (.T 84),.H 86 85,
 .o 87 (.bT .sub) [.T 86,.i 1],.o 88 (.indexAddr 6) [.T 83,.T 87],.E 89 0 88,.D 90 89,
 .w 8 90] [] (.s [.v 91 8,.o 92 (.bT .eql) [.T 91,.i 16],.w 93 92,.vz 94 8 93,
 .z 95 (.bT .eql) [.T 94,.i 17] 93,.o 96 .pick [.T 93,.b true,.T 95],.w 97 96,.z 98 .move [.T 8] 97,
 .z 99 (.bT .eql) [.T 98,.i 18] 97,.o 100 .pick [.T 97,.b true,.T 99],.w 4 100] [8,94,98] .ret))))))) }
def s88:aA:={ eJ:=88,mode:=.pure,az:=2,aG:=1,dj:=[],results:=[.tmp 4 false],body:=
 (.s [.B 2 0 7 0,.m 4 (.b false)] [4] (.s [.E 5 1 2,
 .l 6 0 (.T 5),.w 7 1,.o 8 (.indexAddr 3) [.T 6,.T 7],.L 9 3 8,.c 10 17 [.T 9],
 .w 4 10] [] .ret)) }
def s89:aA:={ eJ:=89,mode:=.pure,az:=1,aG:=0,dj:=[],results:=[.tmp 2 false],body:=
 (.s [.m 2 (.b false)] [2] (.s [.v 3 0,.o 4 (.bT .geq) [.t 3,.const (.int .u8 97)],
 .v 5 4,.vy 6 0 5,.y 7 (.bT .leq) [.t 6,.const (.int .u8 122)] 5,.O 8 5 7,.v 9 8,
 .vz 10 0 9,.z 11 (.bT .geq) [.t 10,.const (.int .u8 65)] 9,.vz 12 11 9,.vy 13 0 12,
 .y 14 (.bT .leq) [.t 13,.const (.int .u8 90)] 12,.z 15 .pick [.t 12,.t 14,.b false] 9,.P 16 9 15,
 .v 2 16] [0,3,4,5,6,7,8,9,10,11,12,13,14,15,16] .ret)) }
def Vn:aX:=
 (.seq (.s [.v 8 1,.v 9 7,.J 10 .add 8 9,.v 11 0,.o 12 (.len .str) [.t 11],
 .J 13 .lss 10 12,.v 14 13,.vy 15 0 14,.vy 16 1 14,.vy 17 7 14,.Jy 18 .add 16 17 14,
 .y 19 .index [.t 15,.t 18] 14,.y 20 (.call 93) [.t 19] 14,.vy 21 20 14,.vz 22 2 21,.z 23 (.un .not) [.t 22] 21,
 .vz 24 23 21,.vy 25 0 24,.vy 26 1 24,.vy 27 7 24,.Jy 28 .add 26 27 24,
 .y 29 .index [.t 25,.t 28] 24,.y 30 (.call 89) [.t 29] 24,.z 31 .pick [.t 24,.t 30,.b false] 21,
 .y 32 .pick [.t 21,.b true,.t 31] 14,
 .O 33 14 32] [8,9,10,11,12,13,14,15,16,17,18,19,20,21,22,23,24,25,26,27,28,29,30,31,32] (.w 33 [0,1,2] 0)) (.block 1 (.g [.v 34 7,.I 35 .add 34 1,.v 7 35] [34,35])))
def s90:aA:={ eJ:=90,mode:=.pure,az:=3,aG:=0,dj:=[],results:=[.tmp 6 false],body:=
 (.s [.m 6 (.i 0)] [6] (.s [.m 7 (.i 0)] [] (.seq (.block 0 (.loop Vn))
 (.s [.v 36 7,.v 6 36] [7,36] .ret)))) }
def Vo:aX:=
 (.seq (.s [.v 6 4,.v 7 3,.H 8 7,.J 9 .lss 6 8] [6,8] (.w 9 [0,3,4] 0)) (.seq (.block 1 (.s [.v 12 3,.v 13 4,.X 14 1 12 13,.D 15 14,
 .v 16 0,.J 17 .eql 15 16] [13,15,16] (.cond (.T 17) [0,3,4] (.s [.m 2 (.b true)] []
 .ret) [] .skip))) (.g [.v 10 4,.I 11 .add 10 1,.v 4 11] [10,11])))
def s91:aA:={ eJ:=91,mode:=.pure,az:=1,aG:=0,dj:=[],results:=[.tmp 2 false],body:=
 (.s [.m 2 (.b false)] [2] (.s [.c 5 109 [],.w 3 5] [] (.seq (.s [
 .m 4 (.i 0)] [] (.block 0 (.loop Vo))) (.s [.m 2 (.b false)] [] .ret)))) }
def Vp:aX:=
 (.seq (.s [.v 22 3,.v 23 0,.o 24 (.len .str) [.t 23],.J 25 .lss 22 24] [22,23,24] (.w 25 [0,3] 0)) (.seq (.block 1 (.s [.v 28 0,.v 29 3,.o 30 .index [.t 28,.t 29],.a 31 89 30,
 .o 32 (.un .not) [.t 31],.v 33 32,.vy 34 0 33,.vy 35 3 33,.y 36 .index [.t 34,.t 35] 33,.y 37 (.call 93) [.t 36] 33,
 .y 38 (.un .not) [.t 37] 33,.O 39 33 38] [28,29,30,31,32,33,34,35,36,37,38] (.cond (.T 39) [0,3] (.s [
 .m 2 (.b false)] [] .ret) [] .skip))) (.g [.v 26 3,.I 27 .add 26 1,
 .v 3 27] [26,27])))
def s92:aA:={ eJ:=92,mode:=.pure,az:=1,aG:=0,dj:=[],results:=[.tmp 2 false],body:=
 (.s [.m 2 (.b false)] [2] (.seq (.s [.v 4 0,.o 5 (.len .str) [.t 4],
 .I 6 .lss 5 1,.v 7 6,.vz 8 0 7,.z 9 (.len .str) [.t 8] 7,
 .Iz 10 .gtr 9 8 7,.P 11 7 10,.v 12 11,.vz 13 0 12,
 .z 14 .index [.t 13,.i 0] 12,.z 15 (.call 89) [.t 14] 12,.z 16 (.un .not) [.t 15] 12,.P 17 12 16,
 .v 18 17,.vz 19 0 18,.z 20 (.call 91) [.t 19] 18,
 .P 21 18 20] [4,5,6,7,8,9,10,11,12,13,14,15,16,17,18,19,20] (.cond (.T 21) [0] (.s [
 .m 2 (.b false)] [] .ret) [] .skip)) (.seq (.s [.m 3 (.i 0)] [] (.block 0 (.loop Vp)))
 (.s [.m 2 (.b true)] [] .ret)))) }
def s93:aA:={ eJ:=93,mode:=.pure,az:=1,aG:=0,dj:=[],results:=[.tmp 2 false],body:=
 (.s [.m 2 (.b false)] [2] (.s [.v 3 0,.o 4 (.bT .geq) [.t 3,.const (.int .u8 48)],
 .v 5 4,.vy 6 0 5,.y 7 (.bT .leq) [.t 6,.const (.int .u8 57)] 5,.O 8 5 7,
 .v 2 8] [0,3,4,5,6,7,8] .ret)) }
def Vq:aX:=
 (.seq (.s [.v 7 5,.v 8 0,.o 9 (.len .str) [.t 8],.J 10 .lss 7 9] [7,8,9] (.w 10 [0,5] 0)) (.seq (.block 1 (.s [.v 13 0,.v 14 5,.o 15 .index [.t 13,.t 14],
 .o 16 (.bT .sub) [.t 15,.const (.int .u8 48)],.o 17 (.conv .i64) [.t 16],.v 6 17] [13,14,15,16,17] (.seq (.s [
 .v 18 4,.v 19 6,.o 20 (.bT .sub) [.i 9223372036854775807,.t 19],.I 21 .quo 20 10,
 .J 22 .gtr 18 21] [18,19,20,21] (.cond (.T 22) [0,4,5,6] (.s [.m 2 (.i 0),
 .m 3 (.b false)] [] .ret) [] .skip)) (.g [.v 23 4,.o 24 (.bT .mul) [.i 10,.t 23],
 .v 25 6,.J 26 .add 24 25,.v 4 26] [6,23,24,25,26])))) (.g [.v 11 5,
 .I 12 .add 11 1,.v 5 12] [11,12])))
def s94:aA:={ eJ:=94,mode:=.pure,az:=1,aG:=0,dj:=[],results:=[.tmp 2 false,.tmp 3 false],body:=
 (.s [.m 2 (.i 0),.m 3 (.b false)] [2,3] (.s [
 .m 4 (.i 0)] [] (.seq (.s [.m 5 (.i 0)] [] (.block 0 (.loop Vq))) (.s [
 .v 27 4,.v 2 27,.m 3 (.b true)] [4,27] .ret)))) }
def Vr:aX:=
 (.seq (.s [.v 10 6,.v 11 5,.H 12 11,.J 13 .lss 10 12] [10,12] (.w 13 [5,6] 0)) (.seq (.block 1 (.seq (.r [.v 16 0,.o 17 (.len .str) [.t 16],.v 18 1,.J 19 .sub 17 18,
 .I 20 .geq 19 2,.v 21 20,.vy 22 0 21,.vy 23 1 21,.vy 24 1 21,
 .Iy 25 .add 24 2 21,.y 26 (.slice true true true false 0) [.t 22,.t 23,.t 25] 21,.vy 27 5 21,.vy 28 6 21,
 .y 29 (.indexAddr 1) [.T 27,.t 28] 21,.Dy 30 29 21,.Jy 31 .eql 26 30 21,
 .O 32 21 31] (some []) [16,17,18,19,20,21,22,23,24,25,26,27,28,29,30,31]) (.cond (.T 32) [0,1] (.s [
 .w 33 5,.v 34 6,.X 35 1 33 34,.D 36 35,.v 4 36] [6,34,36] .ret) []
 .skip))) (.g [.v 14 6,.I 15 .add 14 1,.v 6 15] [14,15])))
def Vs:aX:=
 (.seq (.s [.v 37 8,.v 38 7,.o 39 (.len .str) [.t 38],.J 40 .lss 37 39] [37,38,39] (.w 40 [0,1,7,8] 2)) (.seq (.block 3 (.seq (.r [.v 43 0,.v 44 1,.o 45 .index [.t 43,.t 44],.v 46 7,
 .v 47 8,.o 48 .index [.t 46,.t 47],.J 49 .eql 45 48] (some []) [43,44,45,46,47,48]) (.cond (.T 49) [0,1] (.s [
 .v 50 7,.v 51 8,.v 52 8,.I 53 .add 52 1,
 .o 54 (.slice true true true false 0) [.t 50,.t 51,.t 53],.v 4 54] [7,8,50,51,52,53,54] .ret) [] .skip))) (.g [.v 41 8,
 .I 42 .add 41 1,.v 8 42] [41,42])))
def s95:aA:={ eJ:=95,mode:=.pure,az:=2,aG:=0,dj:=[],results:=[.tmp 4 false],body:=
 (.s [.o 4 .move [.const (.str [])]] [4] (.s [
 .o 9 (.lit 1 5 [.str []] [0,1,2,3,4]) [.const (.str [60,61]),.const (.str [61,61]),.const (.str [33,61]),.const (.str [38,38]),.const (.str [124,124])],
 .w 5 9] [] (.seq (.s [.m 6 (.i 0)] [] (.block 0 (.loop Vr))) (.s [
 .o 7 .move [.const (.str [123,125,40,41,91,93,59,58,44,46,61,43,45,42,47,37,60,33])]] [] (.seq (.s [
 .m 8 (.i 0)] [] (.block 2 (.loop Vs))) (.s [.o 4 .move [.const (.str [])]] [] .ret)))))) }
def s96:aA:={ eJ:=96,mode:=.oP,az:=2,aG:=0,dj:=[],results:=[],body:=
 (.seq (.s [.v 4 0,.v 5 1,.q 6 34 4 5,.v 7 6,.vy 8 0 7,.y 9 .nilCheck [.t 8] 7,
 .Ey 10 2 9 7,.Dy 11 10 7,.Iy 12 .geq 11 50 7,
 .O 13 7 12] [4,5,6,7,8,9,10,11,12] (.cond (.T 13) [1] (.s [.v 14 0,
 .c 15 35 [.t 14,.i 4]] [0,14,15] .ret) [] .skip)) (.s [.v 16 0,.v 17 1,
 .q 18 38 16 17] [1,16,17,18] (.g [.v 19 0,.N 20 19,.E 21 2 20,
 .D 22 21,.I 23 .add 22 1,.N 24 19,.E 25 2 24,
 .R 1 25 23] [0,19,22,23]))) }
def Vt:aA:={ eJ:=97,mode:=.oP,az:=1,aG:=3,dj:=[],results:=[.box 2 0 9 true],body:=
 (.s [.o 2 (.cu 0 [.i 0,.str [],.str [],.i 0,.U,.U,.U,.i 0,.i 0]) []] [] (.s [
 .v 5 0,.a 6 33 5,.o 3 (.cu 1 [.i 0,.str [],.i 0,.i 0]) [],.S 1 4 3 6] [5,6] (.s [.e 7 3 3,.k 8 1 7,
 .o 9 (.build [.i 0,.str [],.str [],.i 0,.U,.U,.U,.i 0,.i 0] [(7,1)]) [.t 8],
 .o 4 (.cu 2 [.i 0,.str [],.str [],.i 0,.U,.U,.U,.i 0,.i 0]) [],.Q 2 9 4 9] [7,8] (.seq
 (.block 0 (.seq (.s [.v 14 0,.c 15 34 [.t 14,.const (.str [118,97,114])],.v 13 15] [14,15] (.cond (.t 13) []
 .skip [13] (.g [.v 16 0,.c 17 34 [.t 16,.const (.str [108,101,116])],.v 13 17] [16,17]))) (.cond (.T 13) [] (.s [.v 18 0,.N 19 18,.E 20 1 19,.D 21 20,
 .I 22 .add 21 1,.N 23 18,.E 24 1 23,.R 1 24 22] [18,21,22] (.s [.e 25 0 4,.n (.iW 2 1) [.t 25,.i 1]] [25] (.s [.v 26 0,
 .a 27 66 26,.e 28 1 4,.S 2 1 28 27] [26,27,28] (.s [.v 29 0,
 .c 30 38 [.t 29,.const (.str [58])]] [29,30] (.s [.v 31 0,.a 32 67 31,.e 33 2 4,
 .S 2 2 33 32] [31,32,33] (.seq (.s [.e 34 1 3,.k 35 1 34,
 .o 36 (.bT .eql) [.t 35,.const (.str [108,101,116])]] [3,34,35] (.cond (.T 36) [] (.s [.e 37 0 4,
 .n (.iW 2 1) [.t 37,.i 2]] [37] (.s [.v 38 0,.c 39 38 [.t 38,.const (.str [61])]] [38,39]
 (.g [.v 40 0,.c 41 110 [.t 40,.i 0],
 .o 42 (.lit 11 1 [.i 0,.i 0,.str [],.str [],.i 0,.U,.i 0,.i 0,.i 0,.i 0,.i 0] [0]) [.T 41],
 .e 43 4 4,.Q 2 1 43 42] [40,43]))) [] .skip)) (.g [.v 44 0,
 .c 45 38 [.t 44,.const (.str [59])]] [0,44,45]))))))) [3] (.s [.v 47 0,.c 48 34 [.t 47,.const (.str [105,102])],
 .v 46 48] [47,48] (.cond (.T 46) [] (.s [.v 49 0,.N 50 49,.E 51 1 50,
 .D 52 51,.I 53 .add 52 1,.N 54 49,.E 55 1 54,
 .R 1 55 53] [49,52,53] (.s [.e 56 0 4,.n (.iW 2 1) [.t 56,.i 5]] [56] (.s [.v 57 0,.c 58 110 [.t 57,.i 0],
 .o 59 (.lit 11 1 [.i 0,.i 0,.str [],.str [],.i 0,.U,.i 0,.i 0,.i 0,.i 0,.i 0] [0]) [.T 58],
 .e 60 4 4,.Q 2 1 60 59] [57,60] (.s [.v 61 0,.a 62 68 61,
 .e 63 5 4,.Q 2 1 63 62] [61,63] (.s [.v 64 0,
 .c 65 34 [.t 64,.const (.str [101,108,115,101])]] [64] (.cond (.T 65) [] (.s [.v 66 0,.N 67 66,
 .E 68 1 67,.D 69 68,.I 70 .add 69 1,.N 71 66,
 .E 72 1 71,.R 1 72 70] [66,69,70] (.g [.v 73 0,.a 74 68 73,
 .e 75 6 4,.Q 2 1 75 74] [0,73,75])) [0] .skip)))))) [] (.s [.v 77 0,
 .c 78 34 [.t 77,.const (.str [119,104,105,108,101])],.v 76 78] [77,78] (.cond (.T 76) [] (.s [.v 79 0,
 .N 80 79,.E 81 1 80,.D 82 81,.I 83 .add 82 1,
 .N 84 79,.E 85 1 84,.R 1 85 83] [79,82,83] (.s [.e 86 0 4,
 .n (.iW 2 1) [.t 86,.i 6]] [86] (.s [.v 87 0,.c 88 110 [.t 87,.i 0],
 .o 89 (.lit 11 1 [.i 0,.i 0,.str [],.str [],.i 0,.U,.i 0,.i 0,.i 0,.i 0,.i 0] [0]) [.T 88],
 .e 90 4 4,.Q 2 1 90 89] [87,90] (.g [.v 91 0,.a 92 68 91,
 .e 93 5 4,.Q 2 1 93 92] [0,91,93])))) [] (.s [.v 95 0,
 .c 96 34 [.t 95,.const (.str [114,101,116,117,114,110])],.v 94 96] [95,96] (.cond (.T 94) [] (.s [.v 97 0,
 .N 98 97,.E 99 1 98,.D 100 99,.I 101 .add 100 1,
 .N 102 97,.E 103 1 102,.R 1 103 101] [97,100,101] (.s [.e 104 0 4,
 .n (.iW 2 1) [.t 104,.i 7]] [104] (.seq (.s [.v 105 0,.c 106 34 [.t 105,.const (.str [59])],
 .o 107 (.un .not) [.t 106]] [105,106] (.cond (.T 107) [] (.g [.v 108 0,.c 109 110 [.t 108,.i 0],
 .o 110 (.lit 11 1 [.i 0,.i 0,.str [],.str [],.i 0,.U,.i 0,.i 0,.i 0,.i 0,.i 0] [0]) [.T 109],
 .e 111 4 4,.Q 2 1 111 110] [108,111]) [] .skip)) (.g [.v 112 0,
 .c 113 38 [.t 112,.const (.str [59])]] [0,112,113])))) [] (.s [.v 115 0,
 .c 116 34 [.t 115,.const (.str [112,114,105,110,116])],.v 114 116] [115,116] (.cond (.T 114) [] (.s [
 .v 117 0,.N 118 117,.E 119 1 118,.D 120 119,
 .I 121 .add 120 1,.N 122 117,.E 123 1 122,
 .R 1 123 121] [117,120,121] (.s [.e 124 0 4,.n (.iW 2 1) [.t 124,.i 8]] [124]
 (.s [.v 125 0,.c 126 110 [.t 125,.i 0],
 .o 127 (.lit 11 1 [.i 0,.i 0,.str [],.str [],.i 0,.U,.i 0,.i 0,.i 0,.i 0,.i 0] [0]) [.T 126],
 .e 128 4 4,.Q 2 1 128 127] [125,128] (.g [.v 129 0,
 .c 130 38 [.t 129,.const (.str [59])]] [0,129,130])))) [] (.s [.v 10 0,.A 11 2 9 4,
 .p 12 111 10 11,.Q 0 9 2 12] [0,4,10] .ret)))))))))))) (.s [.A 131 2 9 4,
 .Q 0 9 2 131] [4] .ret))))) }
end aF
