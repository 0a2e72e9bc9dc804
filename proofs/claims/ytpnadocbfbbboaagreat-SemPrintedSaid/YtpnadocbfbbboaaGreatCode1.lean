/- Part of a proof. -/
import Derived.Test.YtpnadocbfbbboaaGreatA6

set_option maxRecDepth 100000
namespace bX
open Ax Go
def s6:aD:={ eZ:=6,mode:=.pure,aE:=3,aM:=4,di:=[],results:=[.tmp 6 false],body:=
 (.seq (.g [.m 6 (.b false)] [6]) (.seq (.g [.m 12 (.t 0),.c 13 10 [.t 12],.m 11 (.T 13),
 .o 14 (.extract 0) [.t 11],.o 15 (.extract 1) [.T 11],.o 7 (.aN 0 [.U,.U,.U]) [],.o 8 (.aN 1 [.i 0,.i 0]) [],
 .n (.aj 0 3) [.t 7,.T 14],.n (.aj 1 2) [.t 8,.t 15]] [12,15]) (.seq (.seq (.g [.m 16 (.t 0),.o 17 (.len .str) [.t 16],
 .o 18 (.aJ .gtr) [.t 17,.i 3000],.m 19 (.t 18),.z 20 (.fieldAddr 0) [.t 8] 19,.z 21 (.aL 1 false 1 false) [.t 20] 19,
 .z 22 (.aJ .neq) [.t 21,.i 0] 19,.o 23 .pick [.t 19,.b true,.t 22],.m 24 (.t 23),.z 25 .move [.t 1] 24,
 .z 26 (.len .sl) [.T 25] 24,.z 27 (.aJ .gtr) [.t 26,.i 100] 24,.o 28 .pick [.t 24,.b true,.t 27],.m 29 (.t 28),
 .z 30 .move [.t 2] 29,.z 31 (.aJ .gtr) [.t 30,.i 8000] 29,
 .o 32 .pick [.t 29,.b true,.t 31]] [0,8,16,17,18,19,20,21,22,23,24,25,26,27,28,29,30,31]) (.cond (.T 32) [1,2,7] (.seq (.g [
 .m 6 (.b true)] []) .ret) [] .skip)) (.seq (.g [.o 34 (.aL 0 true 3 false) [.t 7],.c 35 16 [.T 34],
 .c 36 10 [.t 35],.m 33 (.T 36),.o 37 (.extract 0) [.t 33],.o 38 (.extract 1) [.T 33],.o 9 (.aN 2 [.U,.U,.U]) [],
 .o 10 (.aN 3 [.i 0,.i 0]) [],.n (.aj 2 3) [.t 9,.T 37],.n (.aj 3 2) [.t 10,.t 38]] [35,38]) (.seq (.seq (.g [
 .f 39 0 (.t 10),.l 40 3 (.t 39),.o 41 (.aJ .neq) [.t 40,.i 0]] [10,39,40])
 (.cond (.T 41) [1,2,7,9] (.seq (.g [.c 42 14 [],.m 6 (.t 42)] [42]) .ret) [] .skip)) (.seq (.r [
 .o 43 (.aL 0 true 3 false) [.t 7],.m 44 (.t 1),.m 45 (.t 2),.c 46 12 [.T 43,.T 44,.t 45],.o 47 (.aL 2 true 3 false) [.t 9],
 .m 48 (.t 1),.m 49 (.t 2),.c 50 12 [.T 47,.T 48,.t 49],.c 51 11 [.T 46,.T 50],.m 52 (.t 51),.y 53 (.call 14) [] 52,
 .o 54 .pick [.t 52,.t 53,.b false],.m 6 (.t 54)] (some []) [1,2,7,9,45,49,51,52,53,54]) .ret)))))) }
def TK:bE:=
 (.seq (.seq (.g [.m 21 (.t 6),.c 22 19 [.t 21],.m 23 (.t 22),.y 24 .move [.t 6] 23,.y 25 (.call 20) [.t 24] 23,
 .y 26 (.field 0 1 false) [.t 25] 23,.y 27 (.aJ .neq) [.t 26,.i 0] 23,
 .o 28 .pick [.t 23,.t 27,.b false]] [21,22,23,24,25,26,27]) (.cond (.T 28) [] .skip [] (.exit 0))) (.block 1 (.block 2 (.seq (.seq (.g [
 .m 32 (.t 6),.c 33 21 [.t 32,.const (.str [114,101,99,111,114,100])],.m 34 (.t 33),.y 35 (.fieldAddr 0) [.t 7] 34,
 .y 36 (.aL 3 false 1 false) [.t 35] 34,.y 37 (.len .sl) [.T 36] 34,.y 38 (.aJ .eql) [.t 37,.i 12] 34,
 .o 39 .pick [.t 34,.t 38,.b false],.m 31 (.t 39)] [32,33,34,35,36,37,38,39]) (.cond (.t 31) [] .skip [31] (.seq (.g [
 .m 40 (.t 6),.c 41 21 [.t 40,.const (.str [103,108,111,98,97,108])],.m 42 (.t 41),.y 43 (.fieldAddr 1) [.t 7] 42,
 .y 44 (.aL 3 false 1 false) [.t 43] 42,.y 45 (.len .sl) [.T 44] 42,.y 46 (.aJ .eql) [.t 45,.i 8] 42,
 .o 47 .pick [.t 42,.t 46,.b false],.m 31 (.t 47)] [40,41,42,43,44,45,46,47]) (.cond (.t 31) [] .skip [31] (.g [
 .m 48 (.t 6),.c 49 21 [.t 48,.const (.str [102,117,110,99])],.m 50 (.t 49),.y 51 (.fieldAddr 2) [.t 7] 50,
 .y 52 (.aL 3 false 1 false) [.t 51] 50,.y 53 (.len .sl) [.T 52] 50,.y 54 (.aJ .eql) [.t 53,.i 16] 50,
 .o 55 .pick [.t 50,.t 54,.b false],.m 31 (.t 55)] [48,49,50,51,52,53,54,55]))))) (.cond (.T 31) [] (.g [.m 56 (.t 6),
 .c 57 22 [.t 56,.i 4]] [56,57]) [] (.seq (.g [.m 59 (.t 6),
 .c 60 21 [.t 59,.const (.str [114,101,99,111,114,100])],.m 58 (.t 60)] [59,60]) (.cond (.T 58) [] (.seq (.g [.m 61 (.t 6),
 .o 62 .nilCheck [.t 61],.f 63 1 (.T 62),.d 64 (.T 63),.o 65 (.aJ .add) [.t 64,.i 1],
 .o 66 .nilCheck [.t 61],.f 67 1 (.T 66),.n (.store 1) [.T 67,.t 65]] [61,64,65]) (.r [.f 68 0 (.t 7),
 .o 69 (.aL 3 false 1 true) [.t 68],.m 70 (.t 6),.c 71 23 [.t 70],.o 72 (.lit 3 1 [.str [],.U,.i 0] [0]) [.T 71],
 .o 73 (.append 3 48) [.T 69,.T 72],.f 74 0 (.t 7),.n (.aj 3 1) [.t 74,.T 73]] (some []) [68,70,74])) [] (.seq (.g [
 .m 76 (.t 6),.c 77 21 [.t 76,.const (.str [103,108,111,98,97,108])],.m 75 (.t 77)] [76,77]) (.cond (.T 75) [] (.seq (.g [
 .m 78 (.t 6),.o 79 .nilCheck [.t 78],.f 80 1 (.T 79),.d 81 (.T 80),
 .o 82 (.aJ .add) [.t 81,.i 1],.o 83 .nilCheck [.t 78],.f 84 1 (.T 83),.n (.store 1) [.T 84,.t 82]] [78,81,82]) (.seq
 (.r [.f 85 1 (.t 7),.o 86 (.aL 3 false 1 true) [.t 85],.m 87 (.t 6),.c 88 24 [.t 87],
 .o 89 (.lit 4 1 [.str [],.str [],.i 0,.i 0] [0]) [.t 88],.o 90 (.append 4 48) [.T 86,.T 89],.f 91 1 (.t 7),
 .n (.aj 3 1) [.t 91,.T 90]] (some []) [85,87,88,91]) (.g [.m 92 (.t 6),.c 93 25 [.t 92,.const (.str [59])]] [92,93]))) [] (.seq
 (.g [.m 95 (.t 6),.c 96 21 [.t 95,.const (.str [102,117,110,99])],.m 94 (.t 96)] [95,96]) (.cond (.T 94) [] (.seq (.g [
 .m 97 (.t 6),.o 98 .nilCheck [.t 97],.f 99 1 (.T 98),.d 100 (.T 99),
 .o 101 (.aJ .add) [.t 100,.i 1],.o 102 .nilCheck [.t 97],.f 103 1 (.T 102),.n (.store 1) [.T 103,.t 101]] [97,100,101])
 (.r [.f 104 2 (.t 7),.o 105 (.aL 3 false 1 true) [.t 104],.m 106 (.t 6),.c 107 26 [.t 106],
 .o 108 (.lit 7 1 [.str [],.U,.bool false,.str [],.i 0,.U,.i 0] [0]) [.T 107],.o 109 (.append 7 104) [.T 105,.T 108],
 .f 110 2 (.t 7),.n (.aj 3 1) [.t 110,.T 109]] (some []) [104,106,110])) [] (.g [.m 29 (.t 6),
 .c 30 22 [.t 29,.i 2]] [29,30]))))))))))))
def s10:aD:={ eZ:=10,mode:=.pure,aE:=1,aM:=4,di:=[],results:=[.box 2 0 3 true,.box 3 1 2 true],body:=
 (.seq (.g [.o 2 (.aN 0 [.U,.U,.U]) [],.o 3 (.aN 1 [.i 0,.i 0]) []] []) (.seq (.g [.m 9 (.t 0),
 .c 10 18 [.t 9],.m 8 (.T 10),.o 11 (.extract 0) [.t 8],.o 12 (.extract 1) [.T 8],.o 5 (.aN 2 [.i 0,.i 0]) [],
 .m 4 (.T 11),.n (.aj 2 2) [.t 5,.t 12]] [0,9,12]) (.seq (.seq (.g [.f 13 0 (.t 5),.l 14 2 (.t 13),
 .o 15 (.aJ .neq) [.t 14,.i 0]] [13,14]) (.cond (.T 15) [4] (.seq (.r [.o 16 (.build [.U,.U,.U] []) [],
 .o 17 (.aL 2 true 2 false) [.t 5],.n (.aj 0 3) [.t 2,.T 16],.n (.aj 1 2) [.t 3,.t 17]] (some []) [5,17]) .ret) [5] .skip)) (.seq (.g [
 .m 18 (.T 4),.o 19 (.build [.U,.i 0,.i 0,.i 0,.i 0] [(0,1)]) [.T 18],.o 20 (.box 5) [.T 19],
 .m 6 (.t 20)] [20]) (.seq (.g [.o 7 (.aN 3 [.U,.U,.U]) []] []) (.seq (.block 0 (.loop TK)) (.seq (.seq (.g [
 .m 111 (.t 6),.c 112 19 [.t 111],.o 113 (.un .not) [.t 112]] [111,112]) (.cond (.T 113) [7] (.seq (.r [
 .o 114 (.build [.U,.U,.U] []) [],.m 115 (.t 6),.o 116 .nilCheck [.t 115],.f 117 3 (.T 116),
 .o 118 (.load true 2 false) [.T 117],.n (.aj 0 3) [.t 2,.T 114],.n (.aj 1 2) [.t 3,.t 118]] (some []) [6,115,118]) .ret) [6] .skip)) (.seq
 (.g [.o 119 (.aL 3 true 3 false) [.t 7],.o 120 (.build [.i 0,.i 0] []) [],.n (.aj 0 3) [.t 2,.T 119],
 .n (.aj 1 2) [.t 3,.t 120]] [7,120]) .ret)))))))) }
def s11:aD:={ eZ:=11,mode:=.pure,aE:=2,aM:=2,di:=[],results:=[.tmp 4 false],body:=
 (.seq (.g [.o 2 (.iA 0 4) [.T 0],.o 3 (.iA 1 4) [.T 1],.m 4 (.b false)] [4]) (.seq (.g [.f 5 0 (.t 2),
 .l 6 0 (.t 5),.f 7 0 (.t 3),.l 8 1 (.t 7),.o 9 (.aJ .eql) [.t 6,.t 8],.m 10 (.t 9),
 .y 11 (.fieldAddr 1) [.t 2] 10,.y 12 (.aL 0 false 1 false) [.t 11] 10,.y 13 (.fieldAddr 1) [.t 3] 10,.y 14 (.aL 1 false 1 false) [.t 13] 10,
 .y 15 (.aJ .eql) [.t 12,.t 14] 10,.o 16 .pick [.t 10,.t 15,.b false],.m 17 (.t 16),.y 18 (.fieldAddr 3) [.t 2] 17,
 .y 19 (.aL 0 false 1 false) [.t 18] 17,.y 20 (.fieldAddr 3) [.t 3] 17,.y 21 (.aL 1 false 1 false) [.t 20] 17,.y 22 (.aJ .eql) [.t 19,.t 21] 17,
 .o 23 .pick [.t 17,.t 22,.b false],.m 24 (.t 23),.y 25 (.fieldAddr 2) [.t 2] 24,.y 26 (.aL 0 false 1 false) [.t 25] 24,
 .y 27 (.fieldAddr 2) [.t 3] 24,.y 28 (.aL 1 false 1 false) [.t 27] 24,.y 29 (.call 17) [.T 26,.T 28] 24,.o 30 .pick [.t 24,.t 29,.b false],
 .m 4 (.t 30)] [2,3,5,6,7,8,9,10,11,12,13,14,15,16,17,18,19,20,21,22,23,24,25,26,27,28,29,30]) .ret)) }
def s12:aD:={ eZ:=12,mode:=.pure,aE:=3,aM:=4,di:=[],results:=[.box 6 1 4 true],body:=
 (.seq (.g [.o 3 (.iA 0 3) [.T 0],.o 6 (.aN 1 [.i 0,.i 0,.U,.i 0]) []] []) (.seq (.g [
 .o 11 (.aL 0 true 3 false) [.t 3],.c 12 27 [.T 11],.m 10 (.T 12),.o 13 (.extract 0) [.t 10],.o 14 (.extract 1) [.T 10],
 .o 7 (.aN 2 [.U,.U,.U,.i 0,.U]) [],.o 8 (.aN 3 [.i 0,.i 0]) [],.n (.aj 2 5) [.t 7,.T 13],
 .n (.aj 3 2) [.t 8,.t 14]] [14]) (.seq (.seq (.g [.f 15 0 (.t 8),.l 16 3 (.t 15),
 .o 17 (.aJ .neq) [.t 16,.i 0],.m 18 (.t 17),.z 19 (.aL 0 true 3 false) [.t 3] 18,.z 20 (.call 28) [.T 19] 18,
 .z 21 (.field 0 1 false) [.t 20] 18,.z 22 (.aJ .neq) [.t 21,.i 0] 18,
 .o 23 .pick [.t 18,.b true,.t 22]] [3,8,15,16,17,18,19,20,21,22]) (.cond (.T 23) [1,2,7] (.seq (.g [
 .o 24 (.build [.i 0,.i 0,.U,.i 0] []) [],.n (.aj 1 4) [.t 6,.T 24]] []) .ret) [] .skip)) (.seq (.r [
 .o 25 (.aL 2 true 5 false) [.t 7],.c 26 29 [],.m 27 (.T 1),.m 28 (.t 2),.o 29 (.yF true) [.t 28,.i 0],
 .f 30 0 (.t 7),.f 31 1 (.t 30),.l 32 2 (.t 31),.o 33 (.len .sl) [.T 32],
 .o 34 (.zm 1 8 [.i 0]) [.t 33,.t 33],
 .o 35 (.build [.U,.U,.U,.i 0,.U,.cY,.U,.i 0,.U,.i 0,.i 0,.i 0,.U,.i 0] [(0,5),(5,1),(6,1),(7,1),(8,1)]) [.T 25,.t 26,.T 27,.t 29,.T 34],
 .o 36 (.box 14) [.T 35],.m 9 (.t 36)] (some [(8,1)]) [2,26,28,29,30,31,33,36]) (.seq (.seq (.xX 9 8) (.g [.m 37 (.t 9),
 .f 38 0 (.t 7),.f 39 3 (.t 38),.l 40 2 (.t 39),
 .c 41 30 [.t 37,.t 40,.const .U]] [7,37,38,39,40,41])) (.seq (.seq (.g [.m 42 (.t 9),.c 43 31 [.t 42],
 .o 44 (.un .not) [.t 43]] [42,43]) (.cond (.T 44) [] (.g [.m 45 (.t 9),.o 46 .nilCheck [.t 45],.f 47 10 (.T 46),
 .f 48 0 (.T 47),.n (.store 1) [.T 48,.i 1]] [45]) [] .skip)) (.seq (.seq (.xX 9 12) (.g [.m 49 (.t 9),
 .o 50 .nilCheck [.t 49],.f 51 10 (.T 50),.o 52 (.load true 4 false) [.T 51],.n (.aj 1 4) [.t 6,.T 52]] [9,49])) .ret))))))) }
def s14:aD:={ eZ:=14,mode:=.pure,aE:=0,aM:=3,di:=[],results:=[.tmp 0 false],body:=
 (.seq (.g [.m 0 (.b false)] [0]) (.seq (.g [
 .c 5 10 [.const (.str [102,117,110,99,32,109,97,105,110,40,41,32,123,32,108,101,116,32,120,58,32,105,110,116,32,61,32,114,101,97,100,40,41,59,32,119,104,105,108,101,32,120,32,60,32,51,32,123,32,112,114,105,110,116,32,120,59,32,120,32,61,32,120,32,43,32,49,59,32,125,32,125])],
 .m 4 (.T 5),.o 6 (.extract 0) [.t 4],.o 7 (.extract 1) [.T 4],.o 1 (.aN 0 [.U,.U,.U]) [],
 .o 2 (.aN 1 [.i 0,.i 0]) [],.n (.aj 0 3) [.t 1,.T 6],.n (.aj 1 2) [.t 2,.t 7]] [2,7]) (.seq (.g [
 .o 8 (.aL 0 true 3 false) [.t 1],.o 9 (.lit 1 1 [.i 0] [0]) [.i 1],.c 10 12 [.T 8,.T 9,.i 500],
 .o 3 (.aN 2 [.i 0,.i 0,.U,.i 0]) [],.n (.aj 2 4) [.t 3,.T 10]] [1]) (.seq (.g [.f 11 0 (.t 3),
 .l 12 2 (.t 11),.o 13 (.aJ .eql) [.t 12,.i 1],.m 14 (.t 13),.y 15 (.fieldAddr 2) [.t 3] 14,
 .y 16 (.aL 2 false 1 false) [.t 15] 14,.y 17 (.len .sl) [.T 16] 14,.y 18 (.aJ .eql) [.t 17,.i 2] 14,
 .o 19 .pick [.t 14,.t 18,.b false],.m 20 (.t 19),.y 21 (.fieldAddr 2) [.t 3] 20,.y 22 (.aL 2 false 1 false) [.t 21] 20,
 .y 23 (.indexAddr 1) [.T 22,.i 0] 20,.y 24 (.load false 1 false) [.T 23] 20,.y 25 (.aJ .eql) [.t 24,.i 1] 20,
 .o 26 .pick [.t 20,.t 25,.b false],.m 27 (.t 26),.y 28 (.fieldAddr 2) [.t 3] 27,.y 29 (.aL 2 false 1 false) [.t 28] 27,
 .y 30 (.indexAddr 1) [.T 29,.i 1] 27,.y 31 (.load false 1 false) [.T 30] 27,.y 32 (.aJ .eql) [.t 31,.i 2] 27,
 .o 33 .pick [.t 27,.t 32,.b false],.m 34 (.t 33),.y 35 (.fieldAddr 3) [.t 3] 34,.y 36 (.aL 2 false 1 false) [.t 35] 34,
 .y 37 (.aJ .gtr) [.t 36,.i 10] 34,.o 38 .pick [.t 34,.t 37,.b false],
 .m 0 (.t 38)] [3,11,12,13,14,15,16,17,18,19,20,21,22,23,24,25,26,27,28,29,30,31,32,33,34,35,36,37,38]) .ret)))) }
def TM:bE:=
 (.seq (.seq (.g [.m 27 (.t 5),.f 28 0 (.t 1),.l 29 0 (.t 28),.m 30 (.t 4),
 .o 31 (.indexAddr 3) [.T 29,.t 30],.f 32 1 (.T 31),.d 33 (.T 32),.o 34 (.len .sl) [.T 33],
 .o 35 (.aJ .lss) [.t 27,.t 34]] [27,28,30,34]) (.cond (.T 35) [] .skip [5] (.exit 2))) (.seq (.block 3 (.g [.m 38 (.t 3),
 .o 39 (.aJ .add) [.t 38,.const (.str [32,32])],.f 40 0 (.t 1),.l 41 0 (.t 40),.m 42 (.t 4),
 .o 43 (.indexAddr 3) [.T 41,.t 42],.f 44 1 (.T 43),.d 45 (.T 44),.m 46 (.t 5),.o 47 (.indexAddr 4) [.T 45,.t 46],
 .o 48 (.load true 4 false) [.T 47],.c 49 36 [.t 48],.o 50 (.aJ .add) [.t 39,.t 49],.o 51 (.aJ .add) [.t 50,.const (.str [59,10])],
 .m 3 (.t 51)] [38,39,40,42,46,48,49,50,51])) (.g [.m 36 (.t 5),.o 37 (.aJ .add) [.t 36,.i 1],
 .m 5 (.t 37)] [36,37])))
def TN:bE:=
 (.seq (.seq (.g [.m 10 (.t 4),.f 11 0 (.t 1),.l 12 0 (.t 11),.o 13 (.len .sl) [.T 12],
 .o 14 (.aJ .lss) [.t 10,.t 13]] [10,11,13]) (.cond (.T 14) [] .skip [4] (.exit 0))) (.seq (.block 1 (.seq (.g [.m 17 (.t 3),
 .o 18 (.aJ .add) [.t 17,.const (.str [114,101,99,111,114,100,32])],.f 19 0 (.t 1),.l 20 0 (.t 19),.m 21 (.t 4),
 .o 22 (.indexAddr 3) [.T 20,.t 21],.f 23 0 (.T 22),.d 24 (.T 23),.o 25 (.aJ .add) [.t 18,.t 24],
 .o 26 (.aJ .add) [.t 25,.const (.str [32,123,10])],.m 3 (.t 26)] [17,18,19,21,24,25,26]) (.seq (.seq (.g [
 .m 5 (.i 0)] []) (.block 2 (.loop TM))) (.g [.m 52 (.t 3),.o 53 (.aJ .add) [.t 52,.const (.str [125,10])],
 .m 3 (.t 53)] [52,53])))) (.g [.m 15 (.t 4),.o 16 (.aJ .add) [.t 15,.i 1],.m 4 (.t 16)] [15,16])))
def TO:bE:=
 (.seq (.seq (.g [.m 54 (.t 6),.f 55 1 (.t 1),.l 56 0 (.t 55),.o 57 (.len .sl) [.T 56],
 .o 58 (.aJ .lss) [.t 54,.t 57]] [54,55,57]) (.cond (.T 58) [] .skip [6] (.exit 4))) (.seq (.block 5 (.g [.m 61 (.t 3),
 .o 62 (.aJ .add) [.t 61,.const (.str [103,108,111,98,97,108,32])],.f 63 1 (.t 1),.l 64 0 (.t 63),.m 65 (.t 6),
 .o 66 (.indexAddr 4) [.T 64,.t 65],.o 67 (.load true 4 false) [.T 66],.c 68 36 [.t 67],.o 69 (.aJ .add) [.t 62,.t 68],
 .o 70 (.aJ .add) [.t 69,.const (.str [59,10])],.m 3 (.t 70)] [61,62,63,65,67,68,69,70])) (.g [.m 59 (.t 6),
 .o 60 (.aJ .add) [.t 59,.i 1],.m 6 (.t 60)] [59,60])))
def TP:bE:=
 (.seq (.seq (.g [.m 89 (.t 9),.f 90 1 (.t 8),.l 91 1 (.t 90),.o 92 (.len .sl) [.T 91],
 .o 93 (.aJ .lss) [.t 89,.t 92]] [89,90,92]) (.cond (.T 93) [] .skip [9] (.exit 8))) (.seq (.block 9 (.seq (.seq (.g [.m 96 (.t 9),
 .o 97 (.aJ .gtr) [.t 96,.i 0]] [96]) (.cond (.T 97) [] (.g [.m 98 (.t 3),.o 99 (.aJ .add) [.t 98,.const (.str [44,32])],
 .m 3 (.t 99)] [98,99]) [] .skip)) (.g [.m 100 (.t 3),.f 101 1 (.t 8),.l 102 1 (.t 101),
 .m 103 (.t 9),.o 104 (.indexAddr 4) [.T 102,.t 103],.o 105 (.load true 4 false) [.T 104],.c 106 36 [.t 105],
 .o 107 (.aJ .add) [.t 100,.t 106],.m 3 (.t 107)] [100,101,103,105,106,107]))) (.g [.m 94 (.t 9),
 .o 95 (.aJ .add) [.t 94,.i 1],.m 9 (.t 95)] [94,95])))
def TQ:bE:=
 (.seq (.seq (.g [.m 71 (.t 7),.f 72 2 (.t 1),.l 73 0 (.t 72),.o 74 (.len .sl) [.T 73],
 .o 75 (.aJ .lss) [.t 71,.t 74]] [71,72,74]) (.cond (.T 75) [] .skip [1,7] (.exit 6))) (.seq (.block 7 (.seq (.g [.f 78 2 (.t 1),
 .l 79 0 (.t 78),.m 80 (.t 7),.o 81 (.indexAddr 7) [.T 79,.t 80],.o 82 (.load true 7 false) [.T 81],
 .o 8 (.aN 1 [.str [],.U,.bool false,.str [],.i 0,.U,.i 0]) [],.n (.aj 1 7) [.t 8,.T 82]] [78,80]) (.seq (.g [
 .m 83 (.t 3),.o 84 (.aJ .add) [.t 83,.const (.str [102,117,110,99,32])],.f 85 0 (.t 8),.l 86 1 (.t 85),
 .o 87 (.aJ .add) [.t 84,.t 86],.o 88 (.aJ .add) [.t 87,.const (.str [40])],.m 3 (.t 88)] [83,84,85,86,87,88]) (.seq (.seq (.g [
 .m 9 (.i 0)] []) (.block 8 (.loop TP))) (.seq (.g [.m 108 (.t 3),.o 109 (.aJ .add) [.t 108,.const (.str [41])],
 .m 3 (.t 109)] [108,109]) (.seq (.seq (.g [.f 110 2 (.t 8),.l 111 1 (.t 110)] [110])
 (.cond (.T 111) [] (.g [.m 112 (.t 3),.o 113 (.aJ .add) [.t 112,.const (.str [58,32])],.f 114 3 (.t 8),
 .o 115 (.aL 1 true 2 false) [.t 114],.c 116 37 [.t 115],.o 117 (.aJ .add) [.t 113,.t 116],
 .m 3 (.t 117)] [112,113,114,115,116,117]) [] .skip)) (.g [.m 118 (.t 3),.o 119 (.aJ .add) [.t 118,.const (.str [32,123,10])],
 .f 120 5 (.t 8),.l 121 1 (.t 120),.c 122 38 [.T 121,.i 1],.o 123 (.aJ .add) [.t 119,.t 122],
 .o 124 (.aJ .add) [.t 123,.const (.str [125,10])],.m 3 (.t 124)] [8,118,119,120,122,123,124]))))))) (.g [.m 76 (.t 7),
 .o 77 (.aJ .add) [.t 76,.i 1],.m 7 (.t 77)] [76,77])))
def s16:aD:={ eZ:=16,mode:=.pure,aE:=1,aM:=2,di:=[],results:=[.tmp 2 false],body:=
 (.seq (.g [.o 1 (.iA 0 3) [.T 0],.o 2 .move [.const (.str [])]] [2]) (.seq (.g [.o 3 .move [.const (.str [])]] []) (.seq (.seq
 (.g [.m 4 (.i 0)] []) (.block 0 (.loop TN))) (.seq (.seq (.g [.m 6 (.i 0)] []) (.block 4
 (.loop TO))) (.seq (.seq (.g [.m 7 (.i 0)] []) (.block 6 (.loop TQ))) (.seq (.g [.m 125 (.t 3),
 .m 2 (.t 125)] [3,125]) .ret)))))) }
def TR:bE:=
 (.seq (.seq (.g [.m 11 (.t 5),.m 12 (.t 0),.o 13 (.len .sl) [.T 12],.o 14 (.aJ .lss) [.t 11,.t 13]] [11,13]) (.cond (.T 14) []
 .skip [0,1,5] (.exit 0))) (.seq (.block 1 (.seq (.r [.m 17 (.t 0),.m 18 (.t 5),.o 19 (.indexAddr 1) [.T 17,.t 18],
 .d 20 (.T 19),.m 21 (.t 1),.m 22 (.t 5),.o 23 (.indexAddr 1) [.T 21,.t 22],.d 24 (.T 23),
 .o 25 (.aJ .neq) [.t 20,.t 24]] (some []) [18,20,22,24]) (.cond (.T 25) [0,1,5] (.seq (.g [.m 4 (.b false)] []) .ret) []
 .skip))) (.g [.m 15 (.t 5),.o 16 (.aJ .add) [.t 15,.i 1],.m 5 (.t 16)] [15,16])))
def s17:aD:={ eZ:=17,mode:=.pure,aE:=2,aM:=0,di:=[],results:=[.tmp 4 false],body:=
 (.seq (.g [.m 4 (.b false)] [4]) (.seq (.seq (.g [.m 6 (.t 0),.o 7 (.len .sl) [.T 6],.m 8 (.t 1),
 .o 9 (.len .sl) [.T 8],.o 10 (.aJ .neq) [.t 7,.t 9]] [7,9]) (.cond (.T 10) [0,1] (.seq (.g [.m 4 (.b false)] []) .ret) []
 .skip)) (.seq (.seq (.g [.m 5 (.i 0)] []) (.block 0 (.loop TR))) (.seq (.g [
 .m 4 (.b true)] []) .ret)))) }
def TT:bE:=
 (.seq (.seq (.g [.m 14 (.t 5),.m 15 (.t 0),.o 16 (.len .str) [.t 15],.o 17 (.aJ .lss) [.t 14,.t 16]] [14,15,16]) (.cond (.T 17) []
 .skip [5] (.exit 0))) (.block 1 (.seq (.g [.m 19 (.t 0),.m 20 (.t 5),.c 21 40 [.t 19,.t 20],.m 18 (.T 21),
 .o 22 (.extract 0) [.t 18],.o 23 (.extract 1) [.T 18],.o 6 (.aN 1 [.i 0,.str [],.i 0,.i 0]) [],.n (.aj 1 4) [.t 6,.t 22],
 .m 7 (.t 23)] [19,20,22,23]) (.seq (.seq (.g [.m 24 (.t 7),.o 25 (.aJ .eql) [.t 24,.i 0]] [24])
 (.cond (.T 25) [0,4,6,7] (.seq (.g [.m 26 (.t 5),.o 27 (.build [.i 0,.i 0] [(0,1),(1,1)]) [.i 1,.t 26],
 .o 2 .move [.const .U],.n (.aj 0 2) [.t 3,.t 27]] [5,26,27]) .ret) [] .skip)) (.seq (.g [.m 28 (.T 4),
 .o 29 (.aL 1 true 4 false) [.t 6],.o 30 (.lit 4 1 [.i 0,.str [],.i 0,.i 0] [0]) [.t 29],.o 31 (.append 4 40) [.T 28,.T 30],
 .m 4 (.T 31)] [6,29]) (.g [.m 32 (.t 0),.m 33 (.t 5),.m 34 (.t 7),.o 35 (.aJ .add) [.t 33,.t 34],
 .c 36 39 [.t 32,.t 35],.m 5 (.t 36)] [7,32,33,34,35,36]))))))
def s18:aD:={ eZ:=18,mode:=.pure,aE:=1,aM:=2,di:=[],results:=[.tmp 2 true,.box 3 0 2 true],body:=
 (.seq (.g [.o 2 .move [.const .U],.o 3 (.aN 0 [.i 0,.i 0]) []] [2]) (.seq (.seq (.g [.m 8 (.t 0),
 .o 9 (.len .str) [.t 8],.o 10 (.aJ .gtr) [.t 9,.i 6000]] [8,9]) (.cond (.T 10) [0] (.seq (.g [
 .o 11 (.build [.i 0,.i 0] [(0,1)]) [.i 4],.o 2 .move [.const .U],.n (.aj 0 2) [.t 3,.t 11]] [11]) .ret) []
 .skip)) (.seq (.g [.o 4 .move [.const .U]] []) (.seq (.g [.m 12 (.t 0),.c 13 39 [.t 12,.i 0],
 .m 5 (.t 13)] [12,13]) (.seq (.block 0 (.loop TT)) (.seq (.g [.m 37 (.T 4),.m 38 (.t 0),.o 39 (.len .str) [.t 38],
 .o 40 (.build [.i 0,.str [],.i 0,.i 0] [(0,1),(3,1)]) [.i 0,.t 39],
 .o 41 (.lit 4 1 [.i 0,.str [],.i 0,.i 0] [0]) [.t 40],.o 42 (.append 4 40) [.T 37,.T 41],
 .o 43 (.build [.i 0,.i 0] []) [],.m 2 (.T 42),.n (.aj 0 2) [.t 3,.t 43]] [0,38,39,40,43]) .ret)))))) }
def s19:aD:={ eZ:=19,mode:=.mR,aE:=1,aM:=0,di:=[],results:=[.tmp 2 false],body:=
 (.seq (.g [.m 2 (.b false)] [2]) (.seq (.g [.m 3 (.t 0),.o 4 .nilCheck [.t 3],.f 5 3 (.T 4),
 .f 6 0 (.T 5),.d 7 (.T 6),.o 8 (.aJ .eql) [.t 7,.i 0],.m 2 (.t 8)] [0,3,7,8]) .ret)) }
def s20:aD:={ eZ:=20,mode:=.mR,aE:=1,aM:=1,di:=[],results:=[.box 2 0 4 true],body:=
 (.seq (.g [.o 2 (.aN 0 [.i 0,.str [],.i 0,.i 0]) []] []) (.seq (.seq (.r [.m 3 (.t 0),.o 4 .nilCheck [.t 3],
 .f 5 1 (.T 4),.d 6 (.T 5),.o 7 (.aJ .lss) [.t 6,.i 0],.m 8 (.t 7),.z 9 .move [.t 0] 8,
 .z 10 .nilCheck [.t 9] 8,.z 11 (.fieldAddr 1) [.T 10] 8,.z 12 (.load false 1 false) [.T 11] 8,.z 13 .move [.t 0] 8,.z 14 .nilCheck [.t 13] 8,
 .z 15 (.fieldAddr 0) [.T 14] 8,.z 16 (.load false 1 false) [.T 15] 8,.z 17 (.len .sl) [.T 16] 8,.z 18 (.aJ .geq) [.t 12,.t 17] 8,
 .o 19 .pick [.t 8,.b true,.t 18]] (some []) [3,6,7,8,9,10,11,12,13,14,15,16,17,18]) (.cond (.T 19) [0] (.seq (.g [
 .o 20 (.build [.i 0,.str [],.i 0,.i 0] [(0,1)]) [.i 0],.n (.aj 0 4) [.t 2,.t 20]] [20]) .ret) [] .skip)) (.seq
 (.r [.m 21 (.t 0),.o 22 .nilCheck [.t 21],.f 23 0 (.T 22),.d 24 (.T 23),.m 25 (.t 0),
 .o 26 .nilCheck [.t 25],.f 27 1 (.T 26),.d 28 (.T 27),.o 29 (.indexAddr 4) [.T 24,.t 28],
 .o 30 (.load true 4 false) [.T 29],.n (.aj 0 4) [.t 2,.t 30]] (some []) [0,21,25,28,30]) .ret))) }
def s21:aD:={ eZ:=21,mode:=.mR,aE:=2,aM:=1,di:=[],results:=[.tmp 4 false],body:=
 (.seq (.g [.m 4 (.b false)] [4]) (.seq (.g [.m 7 (.t 0),.c 8 20 [.t 7],
 .o 5 (.aN 0 [.i 0,.str [],.i 0,.i 0]) [],.n (.aj 0 4) [.t 5,.t 8]] [7,8]) (.seq (.g [
 .m 6 (.i 4)] []) (.seq (.seq (.g [.m 9 (.t 1),.o 10 .index [.t 9,.i 0],
 .o 11 (.aJ .geq) [.t 10,.const (.int .u8 97)],.m 12 (.t 11),.y 13 .move [.t 1] 12,.y 14 .index [.t 13,.i 0] 12,
 .y 15 (.aJ .leq) [.t 14,.const (.int .u8 122)] 12,.o 16 .pick [.t 12,.t 15,.b false]] [9,10,11,12,13,14,15]) (.cond (.T 16) [6] (.g [
 .m 6 (.i 3)] []) [] .skip)) (.seq (.g [.m 17 (.t 0),.c 18 19 [.t 17],.m 19 (.t 18),
 .y 20 (.fieldAddr 0) [.t 5] 19,.y 21 (.aL 0 false 1 false) [.t 20] 19,.y 22 .move [.t 6] 19,.y 23 (.aJ .eql) [.t 21,.t 22] 19,
 .o 24 .pick [.t 19,.t 23,.b false],.m 25 (.t 24),.y 26 (.fieldAddr 1) [.t 5] 25,.y 27 (.aL 0 false 1 false) [.t 26] 25,
 .y 28 .move [.t 1] 25,.y 29 (.aJ .eql) [.t 27,.t 28] 25,.o 30 .pick [.t 25,.t 29,.b false],
 .m 4 (.t 30)] [0,1,5,6,17,18,19,20,21,22,23,24,25,26,27,28,29,30]) .ret))))) }
def s22:aD:={ eZ:=22,mode:=.mR,aE:=2,aM:=0,di:=[],results:=[],body:=
 (.seq (.g [.m 4 (.t 0),.c 5 19 [.t 4]] [4]) (.cond (.T 5) [] (.g [.m 6 (.t 0),.m 7 (.t 1),.m 8 (.t 0),
 .c 9 20 [.t 8],.o 10 (.field 3 1 false) [.t 9],.o 11 (.build [.i 0,.i 0] [(0,1),(1,1)]) [.t 7,.t 10],.o 12 .nilCheck [.t 6],
 .f 13 3 (.T 12),.n (.store 2) [.T 13,.t 11]] [0,1,6,7,8,9,10,11]) [0,1] .skip)) }
def TU:bE:=
 (.seq (.seq (.g [.m 13 (.t 0),.c 14 19 [.t 13],.m 15 (.t 14),.y 16 .move [.t 0] 15,
 .y 17 (.call 21) [.t 16,.const (.str [125])] 15,.y 18 (.un .not) [.t 17] 15,.o 19 .pick [.t 15,.t 18,.b false]] [13,14,15,16,17,18])
 (.cond (.T 19) [] .skip [] (.exit 0))) (.block 1 (.seq (.seq (.g [.m 20 (.t 0),.c 21 20 [.t 20],.o 22 (.field 0 1 false) [.t 21],
 .o 23 (.aJ .eql) [.t 22,.i 1],.m 24 (.t 23),.y 25 (.fieldAddr 1) [.t 3] 24,.y 26 (.aL 1 false 1 false) [.t 25] 24,
 .y 27 (.len .sl) [.T 26] 24,.y 28 (.aJ .eql) [.t 27,.i 8] 24,
 .o 29 .pick [.t 24,.t 28,.b false]] [20,21,22,23,24,25,26,27,28]) (.cond (.T 29) [] (.seq (.g [.m 30 (.t 0),
 .c 31 22 [.t 30,.i 4]] [30,31]) (.exit 0)) [] .skip)) (.seq (.r [.f 32 1 (.t 3),
 .o 33 (.aL 1 false 1 true) [.t 32],.m 34 (.t 0),.c 35 24 [.t 34],.o 36 (.lit 4 1 [.str [],.str [],.i 0,.i 0] [0]) [.t 35],
 .o 37 (.append 4 48) [.T 33,.T 36],.f 38 1 (.t 3),.n (.aj 1 1) [.t 38,.T 37]] (some []) [32,34,35,38]) (.g [.m 39 (.t 0),
 .c 40 25 [.t 39,.const (.str [59])]] [39,40])))))
def s23:aD:={ eZ:=23,mode:=.mR,aE:=1,aM:=2,di:=[],results:=[.box 2 0 3 true],body:=
 (.seq (.g [.o 2 (.aN 0 [.str [],.U,.i 0]) []] []) (.seq (.g [.m 4 (.t 0),.c 5 20 [.t 4],
 .o 6 (.field 3 1 false) [.t 5],.o 7 (.build [.str [],.U,.i 0] [(2,1)]) [.t 6],.o 3 (.aN 1 [.str [],.U,.i 0]) [],
 .n (.aj 1 3) [.t 3,.T 7]] [4,5,6]) (.seq (.g [.m 8 (.t 0),.c 9 41 [.t 8],.f 10 0 (.t 3),
 .n (.aj 1 1) [.t 10,.t 9]] [8,9,10]) (.seq (.g [.m 11 (.t 0),.c 12 25 [.t 11,.const (.str [123])]] [11,12]) (.seq (.block 0
 (.loop TU)) (.seq (.g [.m 41 (.t 0),.c 42 25 [.t 41,.const (.str [125])]] [0,41,42]) (.seq (.g [
 .o 43 (.aL 1 true 3 false) [.t 3],.n (.aj 0 3) [.t 2,.T 43]] [3]) .ret))))))) }
def s24:aD:={ eZ:=24,mode:=.mR,aE:=1,aM:=2,di:=[],results:=[.box 2 0 4 true],body:=
 (.seq (.g [.o 2 (.aN 0 [.str [],.str [],.i 0,.i 0]) []] []) (.seq (.g [.m 4 (.t 0),.c 5 20 [.t 4],
 .o 6 (.field 3 1 false) [.t 5],.o 7 (.build [.str [],.str [],.i 0,.i 0] [(3,1)]) [.t 6],
 .o 3 (.aN 1 [.str [],.str [],.i 0,.i 0]) [],.n (.aj 1 4) [.t 3,.t 7]] [4,5,6,7]) (.seq (.g [.m 8 (.t 0),
 .c 9 41 [.t 8],.f 10 0 (.t 3),.n (.aj 1 1) [.t 10,.t 9]] [8,9,10]) (.seq (.g [.m 11 (.t 0),
 .c 12 25 [.t 11,.const (.str [58])]] [11,12]) (.seq (.g [.m 13 (.t 0),.c 14 42 [.t 13],.f 15 1 (.t 3),
 .n (.aj 1 2) [.t 15,.t 14]] [0,13,14,15]) (.seq (.g [.o 16 (.aL 1 true 4 false) [.t 3],.n (.aj 0 4) [.t 2,.t 16]] [3,16])
 .ret)))))) }
def s25:aD:={ eZ:=25,mode:=.mR,aE:=2,aM:=0,di:=[],results:=[],body:=
 (.seq (.seq (.g [.m 4 (.t 0),.m 5 (.t 1),.c 6 21 [.t 4,.t 5],.o 7 (.un .not) [.t 6]] [1,4,5,6]) (.cond (.T 7) [] (.seq
 (.g [.m 8 (.t 0),.c 9 22 [.t 8,.i 2]] [0,8,9]) .ret) [] .skip)) (.g [.m 10 (.t 0),
 .o 11 .nilCheck [.t 10],.f 12 1 (.T 11),.d 13 (.T 12),.o 14 (.aJ .add) [.t 13,.i 1],
 .o 15 .nilCheck [.t 10],.f 16 1 (.T 15),.n (.store 1) [.T 16,.t 14]] [0,10,13,14])) }
def TV:bE:=
 (.seq (.seq (.g [.m 13 (.t 0),.c 14 19 [.t 13],.m 15 (.t 14),.y 16 .move [.t 0] 15,
 .y 17 (.call 21) [.t 16,.const (.str [41])] 15,.y 18 (.un .not) [.t 17] 15,.o 19 .pick [.t 15,.t 18,.b false]] [13,14,15,16,17,18])
 (.cond (.T 19) [] .skip [] (.exit 0))) (.block 1 (.seq (.seq (.g [.m 20 (.t 0),.c 21 20 [.t 20],.o 22 (.field 0 1 false) [.t 21],
 .o 23 (.aJ .eql) [.t 22,.i 1],.m 24 (.t 23),.y 25 (.fieldAddr 1) [.t 3] 24,.y 26 (.aL 1 false 1 false) [.t 25] 24,
 .y 27 (.len .sl) [.T 26] 24,.y 28 (.aJ .eql) [.t 27,.i 6] 24,
 .o 29 .pick [.t 24,.t 28,.b false]] [20,21,22,23,24,25,26,27,28]) (.cond (.T 29) [] (.seq (.g [.m 30 (.t 0),
 .c 31 22 [.t 30,.i 4]] [30,31]) (.exit 0)) [] .skip)) (.seq (.r [.f 32 1 (.t 3),
 .o 33 (.aL 1 false 1 true) [.t 32],.m 34 (.t 0),.c 35 24 [.t 34],.o 36 (.lit 4 1 [.str [],.str [],.i 0,.i 0] [0]) [.t 35],
 .o 37 (.append 4 48) [.T 33,.T 36],.f 38 1 (.t 3),.n (.aj 1 1) [.t 38,.T 37]] (some []) [32,34,35,38]) (.seq (.g [.m 39 (.t 0),
 .c 40 21 [.t 39,.const (.str [41])],.o 41 (.un .not) [.t 40]] [39,40]) (.cond (.T 41) [] (.seq (.g [.m 42 (.t 0),
 .c 43 25 [.t 42,.const (.str [44])]] [42,43]) (.seq (.g [.m 44 (.t 0),.c 45 21 [.t 44,.const (.str [41])]] [44])
 (.cond (.T 45) [] (.g [.m 46 (.t 0),.c 47 22 [.t 46,.i 2]] [46,47]) [] .skip))) [] .skip))))))
def s26:aD:={ eZ:=26,mode:=.mR,aE:=1,aM:=2,di:=[],results:=[.box 2 0 7 true],body:=
 (.seq (.g [.o 2 (.aN 0 [.str [],.U,.bool false,.str [],.i 0,.U,.i 0]) []] []) (.seq (.g [.m 4 (.t 0),
 .c 5 20 [.t 4],.o 6 (.field 3 1 false) [.t 5],.o 7 (.build [.str [],.U,.bool false,.str [],.i 0,.U,.i 0] [(6,1)]) [.t 6],
 .o 3 (.aN 1 [.str [],.U,.bool false,.str [],.i 0,.U,.i 0]) [],.n (.aj 1 7) [.t 3,.T 7]] [4,5,6]) (.seq (.g [
 .m 8 (.t 0),.c 9 41 [.t 8],.f 10 0 (.t 3),.n (.aj 1 1) [.t 10,.t 9]] [8,9,10]) (.seq (.g [.m 11 (.t 0),
 .c 12 25 [.t 11,.const (.str [40])]] [11,12]) (.seq (.block 0 (.loop TV)) (.seq (.g [.m 48 (.t 0),
 .c 49 25 [.t 48,.const (.str [41])]] [48,49]) (.seq (.seq (.g [.m 50 (.t 0),.c 51 21 [.t 50,.const (.str [58])]] [50])
 (.cond (.T 51) [] (.seq (.g [.m 52 (.t 0),.o 53 .nilCheck [.t 52],.f 54 1 (.T 53),.d 55 (.T 54),
 .o 56 (.aJ .add) [.t 55,.i 1],.o 57 .nilCheck [.t 52],.f 58 1 (.T 57),.n (.store 1) [.T 58,.t 56]] [52,55,56]) (.seq
 (.g [.f 59 2 (.t 3),.n (.aj 1 1) [.t 59,.b true]] [59]) (.g [.m 60 (.t 0),.c 61 42 [.t 60],
 .f 62 3 (.t 3),.n (.aj 1 2) [.t 62,.t 61]] [60,61,62]))) [] .skip)) (.seq (.g [.m 63 (.t 0),.c 64 43 [.t 63],
 .f 65 5 (.t 3),.n (.aj 1 1) [.t 65,.T 64]] [0,63,65]) (.seq (.g [.o 66 (.aL 1 true 7 false) [.t 3],
 .n (.aj 0 7) [.t 2,.T 66]] [3]) .ret))))))))) }
def TW:bE:=
 (.seq (.g [.o 29 (.aJ .lss) [.t 28,.t 27]] []) (.seq (.cond (.T 29) [] .skip [26,27,28] (.exit 0)) (.seq (.block 1 (.seq (.g [
 .o 30 (.indexAddr 3) [.t 26,.t 28],.o 31 (.load true 3 false) [.T 30],.o 8 (.aN 5 [.str [],.U,.i 0]) [],
 .n (.aj 5 3) [.t 8,.T 31]] []) (.r [.m 32 (.t 6),.m 33 (.t 6),.o 34 .nilCheck [.t 33],.f 35 4 (.T 34),
 .o 36 (.load false 1 true) [.T 35],.f 37 0 (.t 8),.l 38 5 (.t 37),.o 39 (.lit 1 1 [.str []] [0]) [.t 38],
 .o 40 (.append 1 16) [.T 36,.T 39],.o 41 .nilCheck [.t 32],.f 42 4 (.T 41),.n (.store 1) [.T 42,.T 40]] (some []) [8,32,33,37,38])))
 (.g [.o 43 (.aJ .add) [.t 28,.i 1],.m 28 (.t 43)] [43]))))
def TX:bE:=
 (.seq (.g [.o 50 (.aJ .lss) [.t 49,.t 48]] []) (.seq (.cond (.T 50) [] .skip [4,6,47,48,49] (.exit 2)) (.seq (.block 3 (.seq (.g [
 .m 51 (.t 49),.o 52 (.indexAddr 7) [.t 47,.t 49],.o 53 (.load true 7 false) [.T 52],
 .o 11 (.aN 7 [.str [],.U,.bool false,.str [],.i 0,.U,.i 0]) [],.m 10 (.t 51),.n (.aj 7 7) [.t 11,.T 53]] [51])
 (.seq (.r [.f 54 4 (.t 9),.o 55 (.aL 6 false 1 true) [.t 54],.m 56 (.t 6),.o 57 (.aL 7 true 7 false) [.t 11],
 .f 58 2 (.t 4),.l 59 3 (.t 58),.m 60 (.t 10),.o 61 (.indexAddr 6) [.T 59,.t 60],
 .o 62 (.load true 6 false) [.T 61],.c 63 45 [.t 56,.T 57,.T 62],.o 64 (.lit 3 1 [.U,.U,.i 0] [0]) [.T 63],
 .o 65 (.append 3 56) [.T 55,.T 64],.f 66 4 (.t 9),.n (.aj 6 1) [.t 66,.T 65]] (some []) [10,11,54,56,58,60,66]) (.seq (.g [
 .m 67 (.t 6),.c 68 46 [.t 67]] [67]) (.cond (.T 68) [4,9,47,48,49] (.seq (.r [
 .o 69 (.build [.U,.U,.U,.i 0,.U] []) [],.m 70 (.t 6),.o 71 .nilCheck [.t 70],.f 72 12 (.T 71),
 .o 73 (.load true 2 false) [.T 72],.n (.aj 1 5) [.t 2,.T 69],.n (.aj 2 2) [.t 3,.t 73]] (some []) [6,70,73]) .ret) [] .skip))))) (.g [
 .o 74 (.aJ .add) [.t 49,.i 1],.m 49 (.t 74)] [74]))))
def s27:aD:={ eZ:=27,mode:=.pure,aE:=1,aM:=8,di:=[],results:=[.box 2 1 5 true,.box 3 2 2 true],body:=
 (.seq (.g [.o 1 (.iA 0 3) [.T 0],.o 2 (.aN 1 [.U,.U,.U,.i 0,.U]) [],
 .o 3 (.aN 2 [.i 0,.i 0]) []] []) (.seq (.g [.o 13 (.aL 0 true 3 false) [.t 1],.c 14 44 [.T 13],.m 12 (.T 14),
 .o 15 (.extract 0) [.t 12],.o 16 (.extract 1) [.T 12],.o 4 (.aN 3 [.U,.U,.U,.i 0]) [],.o 5 (.aN 4 [.i 0,.i 0]) [],
 .n (.aj 3 4) [.t 4,.T 15],.n (.aj 4 2) [.t 5,.t 16]] [16]) (.seq (.seq (.g [.f 17 0 (.t 5),
 .l 18 4 (.t 17),.o 19 (.aJ .neq) [.t 18,.i 0]] [17,18]) (.cond (.T 19) [1,4] (.seq (.r [
 .o 20 (.build [.U,.U,.U,.i 0,.U] []) [],.o 21 (.aL 4 true 2 false) [.t 5],.n (.aj 1 5) [.t 2,.T 20],
 .n (.aj 2 2) [.t 3,.t 21]] (some []) [5,21]) .ret) [5] .skip)) (.seq (.g [.o 22 (.aL 3 true 4 false) [.t 4],
 .o 23 (.build [.U,.U,.U,.i 0,.U,.str [],.U,.bool false,.i 0,.i 0,.i 0,.U,.i 0,.i 0] [(0,4)]) [.T 22],
 .o 24 (.box 14) [.T 23],.m 6 (.t 24)] [24]) (.seq (.seq (.g [.f 25 0 (.t 1),.l 26 0 (.t 25),
 .o 27 (.len .sl) [.t 26],.m 28 (.i 0)] [25]) (.block 0 (.loop TW))) (.seq (.g [.o 44 (.aL 3 true 4 false) [.t 4],
 .o 45 (.build [.U,.U,.U,.i 0,.U] [(0,4)]) [.T 44],.o 9 (.aN 6 [.U,.U,.U,.i 0,.U]) [],
 .n (.aj 6 5) [.t 9,.T 45]] []) (.seq (.seq (.g [.f 46 2 (.t 1),.l 47 0 (.t 46),.o 48 (.len .sl) [.t 47],
 .m 49 (.i 0)] [1,46]) (.block 2 (.loop TX))) (.seq (.g [.o 75 (.aL 6 true 5 false) [.t 9],
 .o 76 (.build [.i 0,.i 0] []) [],.n (.aj 1 5) [.t 2,.T 75],.n (.aj 2 2) [.t 3,.t 76]] [9,76]) .ret)))))))) }
def TY:bE:=
 (.seq (.g [.o 40 (.aJ .lss) [.t 39,.t 38]] []) (.seq (.cond (.T 40) [] .skip [38,39] (.exit 2)) (.seq (.block 3 (.seq (.g [
 .m 41 (.t 39),.m 8 (.t 41)] [41]) (.g [.m 42 (.t 7),.m 43 (.t 8),.o 44 (.indexAddr 1) [.T 42,.t 43],
 .n (.store 1) [.T 44,.b true]] [8,43]))) (.g [.o 45 (.aJ .add) [.t 39,.i 1],.m 39 (.t 45)] [45]))))
def TZ:bE:=
 (.seq (.g [.o 23 (.aJ .lss) [.t 22,.t 21]] []) (.seq (.cond (.T 23) [] .skip [3,20,21,22] (.exit 0)) (.seq (.block 1 (.seq (.g [
 .m 24 (.t 22),.o 25 (.indexAddr 3) [.t 20,.t 22],.o 26 (.load true 3 false) [.T 25],.o 6 (.aN 4 [.U,.U,.i 0]) [],
 .m 5 (.t 24),.n (.aj 4 3) [.t 6,.T 26]] [24]) (.seq (.g [.f 27 0 (.t 6),.l 28 4 (.t 27),
 .o 29 (.len .sl) [.T 28],.o 30 (.qV 1 1 [.bool false] true) [.t 29,.t 29],.m 7 (.T 30)] [27,29]) (.seq (.seq (.g [
 .f 31 0 (.t 3),.f 32 2 (.t 31),.l 33 2 (.t 32),.m 34 (.t 5),.o 35 (.indexAddr 6) [.T 33,.t 34],
 .f 36 1 (.T 35),.d 37 (.T 36),.o 38 (.len .sl) [.T 37],.m 39 (.i 0)] [5,31,32,34]) (.block 2
 (.loop TY))) (.seq (.g [.o 46 (.build [.i 0,.i 0] []) [],.o 47 (.box 2) [.t 46],.m 9 (.t 47)] [46,47]) (.seq (.g [
 .m 48 (.t 9),.f 49 1 (.t 6),.l 50 4 (.t 49),.m 51 (.T 7),
 .c 52 47 [.t 48,.T 50,.T 51]] [6,48,49,52]) (.seq (.g [.m 53 (.t 9),.o 54 .nilCheck [.t 53],.f 55 0 (.T 54),
 .f 56 0 (.T 55),.d 57 (.T 56),.o 58 (.aJ .neq) [.t 57,.i 0]] [53,57]) (.cond (.T 58) [3,20,21,22]
 (.seq (.g [.m 59 (.t 9),.o 60 .nilCheck [.t 59],.f 61 0 (.T 60),.o 62 (.load true 2 false) [.T 61],
 .n (.aj 1 2) [.t 2,.t 62]] [9,59,62]) .ret) [9] .skip)))))))) (.g [.o 63 (.aJ .add) [.t 22,.i 1],
 .m 22 (.t 63)] [63]))))
def s28:aD:={ eZ:=28,mode:=.pure,aE:=1,aM:=5,di:=[],results:=[.box 2 1 2 true],body:=
 (.seq (.g [.o 1 (.iA 0 3) [.T 0],.o 2 (.aN 1 [.i 0,.i 0]) []] []) (.seq (.g [.o 11 (.aL 0 true 3 false) [.t 1],
 .c 12 27 [.T 11],.m 10 (.T 12),.o 13 (.extract 0) [.t 10],.o 14 (.extract 1) [.T 10],
 .o 3 (.aN 2 [.U,.U,.U,.i 0,.U]) [],.o 4 (.aN 3 [.i 0,.i 0]) [],.n (.aj 2 5) [.t 3,.T 13],
 .n (.aj 3 2) [.t 4,.t 14]] [1,14]) (.seq (.seq (.g [.f 15 0 (.t 4),.l 16 3 (.t 15),
 .o 17 (.aJ .neq) [.t 16,.i 0]] [15,16]) (.cond (.T 17) [3] (.seq (.g [.o 18 (.aL 3 true 2 false) [.t 4],
 .n (.aj 1 2) [.t 2,.t 18]] [4,18]) .ret) [4] .skip)) (.seq (.seq (.g [.f 19 4 (.t 3),.l 20 2 (.t 19),
 .o 21 (.len .sl) [.t 20],.m 22 (.i 0)] [19]) (.block 0 (.loop TZ))) (.seq (.g [
 .o 64 (.build [.i 0,.i 0] []) [],.n (.aj 1 2) [.t 2,.t 64]] [64]) .ret))))) }
def s29:aD:={ eZ:=29,mode:=.CN,aE:=0,aM:=0,di:=[],results:=[.tmp 0 false],body:=
 (.seq (.g [.o 0 .move [.const .cY]] [0]) (.seq (.g [.o 1 (.build [.U] []) [],.o 2 (.box 1) [.T 1],.m 0 (.t 2)] [2])
 .ret)) }
def s30:aD:={ eZ:=30,mode:=.CN,aE:=3,aM:=0,di:=[],results:=[.tmp 6 false],body:=
 (.seq (.g [.m 6 (.i 0)] [6]) (.seq (.seq (.g [.m 8 (.t 0),.o 9 .nilCheck [.t 8],.f 10 9 (.T 9),
 .d 11 (.T 10),.o 12 (.aJ .geq) [.t 11,.i 40]] [8,11]) (.cond (.T 12) [1,2] (.seq (.g [.m 13 (.t 0),
 .c 14 48 [.t 13,.i 6]] [0,13,14]) (.seq (.g [.m 6 (.i 0)] []) .ret)) [] .skip)) (.seq (.g [
 .m 15 (.t 0),.o 16 .nilCheck [.t 15],.f 17 9 (.T 16),.d 18 (.T 17),
 .o 19 (.aJ .add) [.t 18,.i 1],.o 20 .nilCheck [.t 15],.f 21 9 (.T 20),.n (.store 1) [.T 21,.t 19]] [15,18,19]) (.seq
 (.g [.m 22 (.t 0),.o 23 .nilCheck [.t 22],.f 24 0 (.T 23),.f 25 4 (.T 24),.d 26 (.T 25),
 .m 27 (.t 1),.o 28 (.indexAddr 3) [.T 26,.t 27],.f 29 0 (.T 28),.d 30 (.T 29),.o 31 (.len .sl) [.T 30],
 .o 32 (.qV 1 8 [.i 0] true) [.t 31,.t 31],.o 33 (.build [.U,.i 0,.bool false] [(0,1)]) [.T 32],.o 34 (.box 3) [.T 33],
 .m 7 (.t 34)] [22,27,31,34]) (.seq (.g [.m 35 (.t 7),.o 36 .nilCheck [.t 35],.f 37 0 (.T 36),
 .d 38 (.T 37),.m 39 (.T 2),.o 40 (.copy 1) [.T 38,.T 39]] [35,40]) (.seq (.g [.m 41 (.t 0),.m 42 (.t 7),
 .m 43 (.t 0),.o 44 .nilCheck [.t 43],.f 45 0 (.T 44),.f 46 4 (.T 45),.d 47 (.T 46),
 .m 48 (.t 1),.o 49 (.indexAddr 3) [.T 47,.t 48],.f 50 1 (.T 49),.d 51 (.T 50),
 .c 52 49 [.t 41,.t 42,.T 51]] [1,41,42,43,48,52]) (.seq (.g [.m 53 (.t 0),.o 54 .nilCheck [.t 53],.f 55 9 (.T 54),
 .d 56 (.T 55),.o 57 (.aJ .sub) [.t 56,.i 1],.o 58 .nilCheck [.t 53],.f 59 9 (.T 58),
 .n (.store 1) [.T 59,.t 57]] [0,53,56,57]) (.seq (.g [.m 60 (.t 7),.o 61 .nilCheck [.t 60],.f 62 1 (.T 61),
 .d 63 (.T 62),.m 6 (.t 63)] [7,60,63]) .ret)))))))) }
def s31:aD:={ eZ:=31,mode:=.mR,aE:=1,aM:=0,di:=[],results:=[.tmp 2 false],body:=
 (.seq (.g [.m 2 (.b false)] [2]) (.seq (.g [.m 3 (.t 0),.o 4 .nilCheck [.t 3],.f 5 10 (.T 4),
 .f 6 0 (.T 5),.d 7 (.T 6),.o 8 (.aJ .neq) [.t 7,.i 0],.m 2 (.t 8)] [0,3,7,8]) .ret)) }
def s36:aD:={ eZ:=36,mode:=.pure,aE:=1,aM:=1,di:=[],results:=[.tmp 2 false],body:=
 (.seq (.g [.o 1 (.iA 0 4) [.t 0],.o 2 .move [.const (.str [])]] [0,2]) (.seq (.r [.f 3 0 (.t 1),
 .l 4 0 (.t 3),.o 5 (.aJ .add) [.t 4,.const (.str [58,32])],.f 6 1 (.t 1),.o 7 (.aL 0 true 2 false) [.t 6],
 .c 8 37 [.t 7],.o 9 (.aJ .add) [.t 5,.t 8],.m 2 (.t 9)] (some []) [1,3,4,5,6,7,8,9]) .ret)) }
def T1:bE:=
 (.seq (.seq (.g [.m 7 (.t 4),.f 8 1 (.t 1),.l 9 0 (.t 8),.o 10 (.aJ .lss) [.t 7,.t 9]] [7,8,9])
 (.cond (.T 10) [] .skip [1,4] (.exit 0))) (.seq (.block 1 (.g [.m 13 (.t 3),.o 14 (.aJ .add) [.const (.str [91]),.t 13],
 .o 15 (.aJ .add) [.t 14,.const (.str [93])],.m 3 (.t 15)] [13,14,15])) (.g [.m 11 (.t 4),
 .o 12 (.aJ .add) [.t 11,.i 1],.m 4 (.t 12)] [11,12])))
def s37:aD:={ eZ:=37,mode:=.pure,aE:=1,aM:=1,di:=[],results:=[.tmp 2 false],body:=
 (.seq (.g [.o 1 (.iA 0 2) [.t 0],.o 2 .move [.const (.str [])]] [0,2]) (.seq (.g [.f 5 0 (.t 1),
 .l 6 0 (.t 5),.m 3 (.t 6)] [5,6]) (.seq (.seq (.g [.m 4 (.i 0)] []) (.block 0
 (.loop T1))) (.seq (.g [.m 16 (.t 3),.m 2 (.t 16)] [3,16]) .ret)))) }
def T2:bE:=
 (.seq (.seq (.g [.m 10 (.t 7),.m 11 (.t 1),.o 12 (.aJ .lss) [.t 10,.t 11]] [10,11]) (.cond (.T 12) [] .skip [7] (.exit 0))) (.seq
 (.block 1 (.g [.m 15 (.t 6),.o 16 (.aJ .add) [.t 15,.const (.str [32,32])],.m 6 (.t 16)] [15,16])) (.g [.m 13 (.t 7),
 .o 14 (.aJ .add) [.t 13,.i 1],.m 7 (.t 14)] [13,14])))
def T4:bE:=
 (.seq (.seq (.g [.m 17 (.t 8),.m 18 (.t 0),.o 19 (.len .sl) [.T 18],.o 20 (.aJ .lss) [.t 17,.t 19]] [17,19]) (.cond (.T 20) []
 .skip [0,1,6,8] (.exit 2))) (.seq (.block 3 (.seq (.g [.m 23 (.t 0),.m 24 (.t 8),.o 25 (.indexAddr 9) [.T 23,.t 24],
 .o 26 (.load true 9 false) [.T 25],.o 9 (.aN 0 [.i 0,.str [],.str [],.i 0,.U,.U,.U,.i 0,.i 0]) [],
 .n (.aj 0 9) [.t 9,.T 26]] [24]) (.seq (.g [.m 27 (.t 5),.m 28 (.t 6),.o 29 (.aJ .add) [.t 27,.t 28],
 .m 5 (.t 29)] [27,28,29]) (.seq (.seq (.g [.f 30 0 (.t 9),.l 31 0 (.t 30)] [30]) (.block 4 (.seq
 (.g [.o 33 (.aJ .eql) [.t 31,.i 1],.m 32 (.t 33)] [33]) (.cond (.T 32) [31] (.r [.m 34 (.t 5),
 .o 35 (.aJ .add) [.t 34,.const (.str [118,97,114,32])],.f 36 1 (.t 9),.l 37 0 (.t 36),.o 38 (.aJ .add) [.t 35,.t 37],
 .o 39 (.aJ .add) [.t 38,.const (.str [58,32])],.f 40 2 (.t 9),.o 41 (.aL 0 true 2 false) [.t 40],.c 42 37 [.t 41],
 .o 43 (.aJ .add) [.t 39,.t 42],.o 44 (.aJ .add) [.t 43,.const (.str [59])],.m 5 (.t 44)] (some []) [9,34,35,36,37,38,39,40,41,42,43,44]) [] (.seq
 (.g [.o 46 (.aJ .eql) [.t 31,.i 2],.m 45 (.t 46)] [46]) (.cond (.T 45) [31] (.r [.m 47 (.t 5),
 .o 48 (.aJ .add) [.t 47,.const (.str [108,101,116,32])],.f 49 1 (.t 9),.l 50 0 (.t 49),
 .o 51 (.aJ .add) [.t 48,.t 50],.o 52 (.aJ .add) [.t 51,.const (.str [58,32])],.f 53 2 (.t 9),.o 54 (.aL 0 true 2 false) [.t 53],
 .c 55 37 [.t 54],.o 56 (.aJ .add) [.t 52,.t 55],.o 57 (.aJ .add) [.t 56,.const (.str [32,61,32])],.f 58 4 (.t 9),
 .l 59 0 (.t 58),.o 60 (.indexAddr 11) [.T 59,.i 0],.o 61 (.load true 11 false) [.T 60],.c 62 57 [.T 61],
 .o 63 (.aJ .add) [.t 57,.t 62],.o 64 (.aJ .add) [.t 63,.const (.str [59])],
 .m 5 (.t 64)] (some []) [9,47,48,49,50,51,52,53,54,55,56,57,58,62,63,64]) [] (.seq (.g [.o 66 (.aJ .eql) [.t 31,.i 3],
 .m 65 (.t 66)] [66]) (.cond (.T 65) [31] (.r [.m 67 (.t 5),.f 68 1 (.t 9),.l 69 0 (.t 68),
 .o 70 (.aJ .add) [.t 67,.t 69],.o 71 (.aJ .add) [.t 70,.const (.str [32,61,32])],.f 72 4 (.t 9),.l 73 0 (.t 72),
 .o 74 (.indexAddr 11) [.T 73,.i 0],.o 75 (.load true 11 false) [.T 74],.c 76 57 [.T 75],.o 77 (.aJ .add) [.t 71,.t 76],
 .o 78 (.aJ .add) [.t 77,.const (.str [59])],.m 5 (.t 78)] (some []) [9,67,68,69,70,71,72,76,77,78]) [] (.seq (.g [
 .o 80 (.aJ .eql) [.t 31,.i 4],.m 79 (.t 80)] [80]) (.cond (.T 79) [31] (.r [.m 81 (.t 5),
 .f 82 4 (.t 9),.l 83 0 (.t 82),.o 84 (.indexAddr 11) [.T 83,.i 0],.o 85 (.load true 11 false) [.T 84],
 .c 86 57 [.T 85],.o 87 (.aJ .add) [.t 81,.t 86],.o 88 (.aJ .add) [.t 87,.const (.str [32,61,32])],.f 89 4 (.t 9),
 .l 90 0 (.t 89),.o 91 (.indexAddr 11) [.T 90,.i 1],.o 92 (.load true 11 false) [.T 91],.c 93 57 [.T 92],
 .o 94 (.aJ .add) [.t 88,.t 93],.o 95 (.aJ .add) [.t 94,.const (.str [59])],.m 5 (.t 95)] (some []) [9,81,82,86,87,88,89,93,94,95]) [] (.seq
 (.g [.o 97 (.aJ .eql) [.t 31,.i 7],.m 96 (.t 97)] [97]) (.cond (.T 96) [31] (.seq (.g [.m 98 (.t 5),
 .o 99 (.aJ .add) [.t 98,.const (.str [114,101,116,117,114,110])],.m 5 (.t 99)] [98,99]) (.seq (.seq (.g [.f 100 4 (.t 9),
 .l 101 0 (.t 100),.o 102 (.len .sl) [.T 101],.o 103 (.aJ .gtr) [.t 102,.i 0]] [100,102]) (.cond (.T 103) []
 (.g [.m 104 (.t 5),.o 105 (.aJ .add) [.t 104,.const (.str [32])],.f 106 4 (.t 9),.l 107 0 (.t 106),
 .o 108 (.indexAddr 11) [.T 107,.i 0],.o 109 (.load true 11 false) [.T 108],.c 110 57 [.T 109],.o 111 (.aJ .add) [.t 105,.t 110],
 .m 5 (.t 111)] [9,104,105,106,110,111]) [9] .skip)) (.g [.m 112 (.t 5),.o 113 (.aJ .add) [.t 112,.const (.str [59])],
 .m 5 (.t 113)] [112,113]))) [] (.seq (.g [.o 115 (.aJ .eql) [.t 31,.i 8],.m 114 (.t 115)] [115])
 (.cond (.T 114) [31] (.g [.m 116 (.t 5),.o 117 (.aJ .add) [.t 116,.const (.str [112,114,105,110,116,32])],.f 118 4 (.t 9),
 .l 119 0 (.t 118),.o 120 (.indexAddr 11) [.T 119,.i 0],.o 121 (.load true 11 false) [.T 120],
 .c 122 57 [.T 121],.o 123 (.aJ .add) [.t 117,.t 122],.o 124 (.aJ .add) [.t 123,.const (.str [59])],
 .m 5 (.t 124)] [9,116,117,118,122,123,124]) [] (.seq (.g [.o 126 (.aJ .eql) [.t 31,.i 9],.m 125 (.t 126)] [126])
 (.cond (.T 125) [31] (.g [.m 127 (.t 5),.f 128 4 (.t 9),.l 129 0 (.t 128),
 .o 130 (.indexAddr 11) [.T 129,.i 0],.o 131 (.load true 11 false) [.T 130],.c 132 57 [.T 131],.o 133 (.aJ .add) [.t 127,.t 132],
 .o 134 (.aJ .add) [.t 133,.const (.str [59])],.m 5 (.t 134)] [9,127,128,132,133,134]) [] (.seq (.g [
 .o 136 (.aJ .eql) [.t 31,.i 6],.m 135 (.t 136)] [136]) (.cond (.T 135) [31] (.r [.m 137 (.t 5),
 .o 138 (.aJ .add) [.t 137,.const (.str [119,104,105,108,101,32])],.f 139 4 (.t 9),.l 140 0 (.t 139),
 .o 141 (.indexAddr 11) [.T 140,.i 0],.o 142 (.load true 11 false) [.T 141],.c 143 57 [.T 142],.o 144 (.aJ .add) [.t 138,.t 143],
 .o 145 (.aJ .add) [.t 144,.const (.str [32,123,10])],.f 146 5 (.t 9),.l 147 0 (.t 146),.m 148 (.t 1),
 .o 149 (.aJ .add) [.t 148,.i 1],.c 150 38 [.T 147,.t 149],.o 151 (.aJ .add) [.t 145,.t 150],.m 152 (.t 6),
 .o 153 (.aJ .add) [.t 151,.t 152],.o 154 (.aJ .add) [.t 153,.const (.str [125])],
 .m 5 (.t 154)] (some []) [9,137,138,139,143,144,145,146,148,149,150,151,152,153,154]) [] (.seq (.g [
 .o 156 (.aJ .eql) [.t 31,.i 5],.m 155 (.t 156)] [31,156]) (.cond (.T 155) [] (.seq (.r [.m 157 (.t 5),
 .o 158 (.aJ .add) [.t 157,.const (.str [105,102,32])],.f 159 4 (.t 9),.l 160 0 (.t 159),
 .o 161 (.indexAddr 11) [.T 160,.i 0],.o 162 (.load true 11 false) [.T 161],.c 163 57 [.T 162],.o 164 (.aJ .add) [.t 158,.t 163],
 .o 165 (.aJ .add) [.t 164,.const (.str [32,123,10])],.f 166 5 (.t 9),.l 167 0 (.t 166),.m 168 (.t 1),
 .o 169 (.aJ .add) [.t 168,.i 1],.c 170 38 [.T 167,.t 169],.o 171 (.aJ .add) [.t 165,.t 170],.m 172 (.t 6),
 .o 173 (.aJ .add) [.t 171,.t 172],.o 174 (.aJ .add) [.t 173,.const (.str [125])],
 .m 5 (.t 174)] (some []) [157,158,159,163,164,165,166,168,169,170,171,172,173,174]) (.seq (.g [.f 175 6 (.t 9),
 .l 176 0 (.t 175),.o 177 (.len .sl) [.T 176],.o 178 (.aJ .gtr) [.t 177,.i 0]] [175,177]) (.cond (.T 178) []
 (.g [.m 179 (.t 5),.o 180 (.aJ .add) [.t 179,.const (.str [32,101,108,115,101,32,123,10])],.f 181 6 (.t 9),
 .l 182 0 (.t 181),.m 183 (.t 1),.o 184 (.aJ .add) [.t 183,.i 1],.c 185 38 [.T 182,.t 184],
 .o 186 (.aJ .add) [.t 180,.t 185],.m 187 (.t 6),.o 188 (.aJ .add) [.t 186,.t 187],.o 189 (.aJ .add) [.t 188,.const (.str [125])],
 .m 5 (.t 189)] [9,179,180,181,183,184,185,186,187,188,189]) [9] .skip))) [9] .skip)))))))))))))))))))) (.g [.m 190 (.t 5),
 .o 191 (.aJ .add) [.t 190,.const (.str [10])],.m 5 (.t 191)] [190,191]))))) (.g [.m 21 (.t 8),
 .o 22 (.aJ .add) [.t 21,.i 1],.m 8 (.t 22)] [21,22])))
def s38:aD:={ eZ:=38,mode:=.pure,aE:=2,aM:=1,di:=[],results:=[.tmp 4 false],body:=
 (.seq (.g [.o 4 .move [.const (.str [])]] [4]) (.seq (.g [.o 5 .move [.const (.str [])]] []) (.seq (.g [
 .o 6 .move [.const (.str [])]] []) (.seq (.seq (.g [.m 7 (.i 0)] []) (.block 0 (.loop T2))) (.seq (.seq (.g [
 .m 8 (.i 0)] []) (.block 2 (.loop T4))) (.seq (.g [.m 192 (.t 5),.m 4 (.t 192)] [5,192]) .ret)))))) }
def T5:bE:=
 (.seq (.seq (.g [.m 49 (.t 1),.m 50 (.t 0),.o 51 (.len .str) [.t 50],.o 52 (.aJ .lss) [.t 49,.t 51],.m 53 (.t 52),
 .y 54 .move [.t 0] 53,.y 55 .move [.t 1] 53,.y 56 .index [.t 54,.t 55] 53,.y 57 (.aJ .neq) [.t 56,.const (.int .u8 10)] 53,
 .o 58 .pick [.t 53,.t 57,.b false]] [49,50,51,52,53,54,55,56,57]) (.cond (.T 58) [] .skip [] (.exit 3))) (.block 4 (.g [
 .m 59 (.t 1),.o 60 (.aJ .add) [.t 59,.i 1],.m 1 (.t 60)] [59,60])))
def T6:bE:=
 (.seq (.seq (.g [.m 5 (.t 1),.m 6 (.t 0),.o 7 (.len .str) [.t 6],.o 8 (.aJ .lss) [.t 5,.t 7]] [5,6,7]) (.cond (.T 8) [] .skip [0]
 (.exit 0))) (.block 1 (.block 2 (.seq (.g [.m 11 (.t 0),.m 12 (.t 1),.o 13 .index [.t 11,.t 12],
 .o 14 (.aJ .eql) [.t 13,.const (.int .u8 32)],.m 15 (.t 14),.z 16 .move [.t 0] 15,.z 17 .move [.t 1] 15,.z 18 .index [.t 16,.t 17] 15,
 .z 19 (.aJ .eql) [.t 18,.const (.int .u8 9)] 15,.o 20 .pick [.t 15,.b true,.t 19],.m 21 (.t 20),.z 22 .move [.t 0] 21,
 .z 23 .move [.t 1] 21,.z 24 .index [.t 22,.t 23] 21,.z 25 (.aJ .eql) [.t 24,.const (.int .u8 10)] 21,.o 26 .pick [.t 21,.b true,.t 25],
 .m 27 (.t 26),.z 28 .move [.t 0] 27,.z 29 .move [.t 1] 27,.z 30 .index [.t 28,.t 29] 27,.z 31 (.aJ .eql) [.t 30,.const (.int .u8 13)] 27,
 .o 32 .pick [.t 27,.b true,.t 31],.m 10 (.t 32)] [11,12,13,14,15,16,17,18,19,20,21,22,23,24,25,26,27,28,29,30,31,32])
 (.cond (.T 10) [] (.g [.m 33 (.t 1),.o 34 (.aJ .add) [.t 33,.i 1],.m 1 (.t 34)] [33,34]) [] (.seq (.g [
 .m 36 (.t 0),.o 37 (.len .str) [.t 36],.m 38 (.t 1),.o 39 (.aJ .sub) [.t 37,.t 38],.o 40 (.aJ .geq) [.t 39,.i 2],
 .m 41 (.t 40),.y 42 .move [.t 0] 41,.y 43 .move [.t 1] 41,.y 44 .move [.t 1] 41,.y 45 (.aJ .add) [.t 44,.i 2] 41,
 .y 46 (.slice true true true false 0) [.t 42,.t 43,.t 45] 41,.y 47 (.aJ .eql) [.t 46,.const (.str [47,47])] 41,
 .o 48 .pick [.t 41,.t 47,.b false],.m 35 (.t 48)] [36,37,38,39,40,41,42,43,44,45,46,47,48]) (.cond (.T 35) [] (.block 3
 (.loop T5)) [0] (.seq (.g [.m 9 (.t 1),.m 4 (.t 9)] [1,9]) .ret))))))))
def s39:aD:={ eZ:=39,mode:=.pure,aE:=2,aM:=0,di:=[],results:=[.tmp 4 false],body:=
 (.seq (.g [.m 4 (.i 0)] [4]) (.seq (.block 0 (.loop T6)) (.seq (.g [.m 61 (.t 1),
 .m 4 (.t 61)] [1,61]) .ret))) }
def Nb:aD:={ eZ:=40,mode:=.pure,aE:=2,aM:=1,di:=[],results:=[.box 4 0 4 true,.tmp 5 false],body:=
 (.seq (.g [.o 4 (.aN 0 [.i 0,.str [],.i 0,.i 0]) [],.m 5 (.i 0)] [5]) (.seq (.block 0 (.seq
 (.g [.m 13 (.t 0),.m 14 (.t 1),.o 15 .index [.t 13,.t 14],.c 16 58 [.t 15],.m 12 (.t 16)] [13,14,15,16])
 (.cond (.T 12) [] (.seq (.g [.m 17 (.t 0),.m 18 (.t 1),.c 19 59 [.t 17,.t 18,.b false],
 .m 6 (.t 19)] [17,18,19]) (.seq (.g [.m 20 (.t 0),.m 21 (.t 1),.m 22 (.t 1),.m 23 (.t 6),
 .o 24 (.aJ .add) [.t 22,.t 23],.o 25 (.slice true true true false 0) [.t 20,.t 21,.t 24],.m 7 (.t 25)] [0,20,21,22,23,24,25]) (.seq (.seq
 (.g [.m 26 (.t 7),.c 27 60 [.t 26]] [26]) (.cond (.T 27) [] (.seq (.g [.m 28 (.t 7),.m 29 (.t 1),
 .o 30 (.build [.i 0,.str [],.i 0,.i 0] [(0,1),(1,1),(3,1)]) [.i 3,.t 28,.t 29],.m 31 (.t 6),
 .n (.aj 0 4) [.t 4,.t 30],.m 5 (.t 31)] [1,6,7,28,29,30,31]) .ret) [] .skip)) (.seq (.seq (.g [.m 32 (.t 7),
 .c 33 61 [.t 32]] [32]) (.cond (.T 33) [] (.seq (.g [.m 34 (.t 7),.m 35 (.t 1),
 .o 36 (.build [.i 0,.str [],.i 0,.i 0] [(0,1),(1,1),(3,1)]) [.i 1,.t 34,.t 35],.m 37 (.t 6),
 .n (.aj 0 4) [.t 4,.t 36],.m 5 (.t 37)] [1,6,7,34,35,36,37]) .ret) [1,6,7] .skip)) (.seq (.g [
 .o 38 (.build [.i 0,.str [],.i 0,.i 0] []) [],.n (.aj 0 4) [.t 4,.t 38],.m 5 (.i 0)] [38]) .ret))))) []
 (.seq (.g [.m 40 (.t 0),.m 41 (.t 1),.o 42 .index [.t 40,.t 41],.c 43 62 [.t 42],.m 39 (.t 43)] [40,41,42,43])
 (.cond (.T 39) [] (.seq (.g [.m 44 (.t 0),.m 45 (.t 1),.c 46 59 [.t 44,.t 45,.b true],
 .m 8 (.t 46)] [44,45,46]) (.seq (.g [.m 48 (.t 0),.m 49 (.t 1),.m 50 (.t 1),.m 51 (.t 8),
 .o 52 (.aJ .add) [.t 50,.t 51],.o 53 (.slice true true true false 0) [.t 48,.t 49,.t 52],.c 54 63 [.t 53],.m 47 (.T 54),
 .o 55 (.extract 0) [.t 47],.o 56 (.extract 1) [.T 47],.m 9 (.t 55),.m 10 (.t 56)] [48,49,50,51,52,53,55,56]) (.seq (.seq (.g [
 .m 57 (.t 10),.o 58 (.un .not) [.t 57],.m 59 (.t 58),.z 60 .move [.t 8] 59,.z 61 (.aJ .gtr) [.t 60,.i 1] 59,
 .z 62 .move [.t 61] 59,.y 63 .move [.t 0] 62,.y 64 .move [.t 1] 62,.y 65 .index [.t 63,.t 64] 62,.y 66 (.aJ .eql) [.t 65,.const (.int .u8 48)] 62,
 .z 67 .pick [.t 62,.t 66,.b false] 59,.o 68 .pick [.t 59,.b true,.t 67],.m 69 (.t 68),.z 70 .move [.t 1] 69,
 .z 71 .move [.t 8] 69,.z 72 (.aJ .add) [.t 70,.t 71] 69,.z 73 .move [.t 0] 69,.z 74 (.len .str) [.t 73] 69,.z 75 (.aJ .lss) [.t 72,.t 74] 69,
 .z 76 .move [.t 75] 69,.y 77 .move [.t 0] 76,.y 78 .move [.t 1] 76,.y 79 .move [.t 8] 76,.y 80 (.aJ .add) [.t 78,.t 79] 76,
 .y 81 .index [.t 77,.t 80] 76,.y 82 (.call 58) [.t 81] 76,.z 83 .pick [.t 76,.t 82,.b false] 69,
 .o 84 .pick [.t 69,.b true,.t 83]] [0,10,57,58,59,60,61,62,63,64,65,66,67,68,69,70,71,72,73,74,75,76,77,78,79,80,81,82,83])
 (.cond (.T 84) [1,8,9] (.seq (.g [.o 85 (.build [.i 0,.str [],.i 0,.i 0] []) [],.n (.aj 0 4) [.t 4,.t 85],
 .m 5 (.i 0)] [85]) .ret) [] .skip)) (.seq (.g [.m 86 (.t 9),.m 87 (.t 1),
 .o 88 (.build [.i 0,.str [],.i 0,.i 0] [(0,1),(2,1),(3,1)]) [.i 2,.t 86,.t 87],.m 89 (.t 8),
 .n (.aj 0 4) [.t 4,.t 88],.m 5 (.t 89)] [1,8,9,86,87,88,89]) .ret)))) [] .skip))))) (.seq (.g [.m 90 (.t 0),.m 91 (.t 1),
 .c 92 64 [.t 90,.t 91],.m 11 (.t 92)] [0,90,91,92]) (.seq (.seq (.g [.m 93 (.t 11),
 .o 94 (.aJ .eql) [.t 93,.const (.str [])]] [93]) (.cond (.T 94) [1,11] (.seq (.g [
 .o 95 (.build [.i 0,.str [],.i 0,.i 0] []) [],.n (.aj 0 4) [.t 4,.t 95],.m 5 (.i 0)] [95]) .ret) []
 .skip)) (.seq (.g [.m 96 (.t 11),.m 97 (.t 1),
 .o 98 (.build [.i 0,.str [],.i 0,.i 0] [(0,1),(1,1),(3,1)]) [.i 4,.t 96,.t 97],.m 99 (.t 11),
 .o 100 (.len .str) [.t 99],.n (.aj 0 4) [.t 4,.t 98],.m 5 (.t 100)] [1,11,96,97,98,99,100]) .ret))))) }
def s41:aD:={ eZ:=41,mode:=.mR,aE:=1,aM:=1,di:=[],results:=[.tmp 2 false],body:=
 (.seq (.g [.o 2 .move [.const (.str [])]] [2]) (.seq (.g [.m 4 (.t 0),.c 5 20 [.t 4],
 .o 3 (.aN 0 [.i 0,.str [],.i 0,.i 0]) [],.n (.aj 0 4) [.t 3,.t 5]] [4,5]) (.seq (.seq (.g [.m 6 (.t 0),
 .c 7 19 [.t 6],.m 8 (.t 7),.y 9 (.fieldAddr 0) [.t 3] 8,.y 10 (.aL 0 false 1 false) [.t 9] 8,
 .y 11 (.aJ .eql) [.t 10,.i 1] 8,.o 12 .pick [.t 8,.t 11,.b false]] [6,7,8,9,10,11]) (.cond (.T 12) [] (.seq (.g [
 .m 13 (.t 0),.o 14 .nilCheck [.t 13],.f 15 1 (.T 14),.d 16 (.T 15),
 .o 17 (.aJ .add) [.t 16,.i 1],.o 18 .nilCheck [.t 13],.f 19 1 (.T 18),.n (.store 1) [.T 19,.t 17]] [0,13,16,17]) (.seq
 (.g [.f 20 1 (.t 3),.l 21 0 (.t 20),.m 2 (.t 21)] [3,20,21]) .ret)) [3] .skip)) (.seq (.g [
 .m 22 (.t 0),.c 23 22 [.t 22,.i 2]] [0,22,23]) (.seq (.g [.o 2 .move [.const (.str [])]] []) .ret))))) }
def T7:bE:=
 (.seq (.seq (.g [.m 6 (.t 0),.c 7 21 [.t 6,.const (.str [91])]] [6]) (.cond (.T 7) [] .skip [] (.exit 0))) (.block 1 (.seq (.seq
 (.g [.m 8 (.t 3),.o 9 (.aJ .eql) [.t 8,.i 3]] [8]) (.cond (.T 9) [3] (.seq (.g [.m 10 (.t 0),
 .c 11 22 [.t 10,.i 4]] [0,10,11]) (.seq (.g [.o 12 (.build [.str [],.i 0] []) [],
 .n (.aj 0 2) [.t 2,.t 12]] [12]) .ret)) [] .skip)) (.seq (.g [.m 13 (.t 0),.o 14 .nilCheck [.t 13],.f 15 1 (.T 14),
 .d 16 (.T 15),.o 17 (.aJ .add) [.t 16,.i 1],.o 18 .nilCheck [.t 13],.f 19 1 (.T 18),
 .n (.store 1) [.T 19,.t 17]] [13,16,17]) (.g [.m 20 (.t 3),.o 21 (.aJ .add) [.t 20,.i 1],
 .m 3 (.t 21)] [20,21])))))
def Iy:bE:=
 (.seq (.seq (.g [.m 43 (.t 5),.m 44 (.t 3),.o 45 (.aJ .lss) [.t 43,.t 44]] [43,44]) (.cond (.T 45) [] .skip [0,3,5] (.exit 3)))
 (.seq (.block 4 (.g [.m 48 (.t 0),.c 49 25 [.t 48,.const (.str [93])]] [48,49])) (.g [.m 46 (.t 5),
 .o 47 (.aJ .add) [.t 46,.i 1],.m 5 (.t 47)] [46,47])))
def s42:aD:={ eZ:=42,mode:=.mR,aE:=1,aM:=2,di:=[],results:=[.box 2 0 2 true],body:=
 (.seq (.g [.o 2 (.aN 0 [.str [],.i 0]) []] []) (.seq (.g [.m 3 (.i 0)] []) (.seq (.block 0
 (.loop T7)) (.seq (.g [.m 22 (.t 3),.o 23 (.build [.str [],.i 0] [(1,1)]) [.t 22],.o 4 (.aN 1 [.str [],.i 0]) [],
 .n (.aj 1 2) [.t 4,.t 23]] [22,23]) (.seq (.block 2 (.seq (.seq (.g [.m 28 (.t 0),.c 29 21 [.t 28,.const (.str [105,110,116])],
 .m 27 (.t 29)] [28,29]) (.cond (.t 27) [] .skip [27] (.g [.m 30 (.t 0),.c 31 21 [.t 30,.const (.str [98,111,111,108])],
 .m 27 (.t 31)] [30,31]))) (.cond (.T 27) [] (.seq (.g [.m 32 (.t 0),.c 33 20 [.t 32],.o 34 (.field 1 1 false) [.t 33],
 .f 35 0 (.t 4),.n (.aj 1 1) [.t 35,.t 34]] [32,33,34,35]) (.g [.m 36 (.t 0),.o 37 .nilCheck [.t 36],
 .f 38 1 (.T 37),.d 39 (.T 38),.o 40 (.aJ .add) [.t 39,.i 1],.o 41 .nilCheck [.t 36],
 .f 42 1 (.T 41),.n (.store 1) [.T 42,.t 40]] [36,39,40])) [] (.g [.m 24 (.t 0),.c 25 41 [.t 24],
 .f 26 0 (.t 4),.n (.aj 1 1) [.t 26,.t 25]] [24,25,26])))) (.seq (.seq (.g [.m 5 (.i 0)] []) (.block 3
 (.loop Iy))) (.seq (.g [.o 50 (.aL 1 true 2 false) [.t 4],.n (.aj 0 2) [.t 2,.t 50]] [4,50]) .ret))))))) }
def T8:bE:=
 (.seq (.seq (.g [.m 6 (.t 0),.c 7 19 [.t 6],.m 8 (.t 7),.y 9 .move [.t 0] 8,.y 10 (.call 21) [.t 9,.const (.str [125])] 8,
 .y 11 (.un .not) [.t 10] 8,.o 12 .pick [.t 8,.t 11,.b false]] [6,7,8,9,10,11]) (.cond (.T 12) [] .skip [] (.exit 0))) (.block 1 (.g [
 .m 13 (.T 3),.m 14 (.t 0),.c 15 66 [.t 14],
 .o 16 (.lit 9 1 [.i 0,.str [],.str [],.i 0,.U,.U,.U,.i 0,.i 0] [0]) [.T 15],.o 17 (.append 9 136) [.T 13,.T 16],
 .m 3 (.T 17)] [14])))
def s43:aD:={ eZ:=43,mode:=.mR,aE:=1,aM:=0,di:=[],results:=[.tmp 2 true],body:=
 (.seq (.g [.o 2 .move [.const .U]] [2]) (.seq (.g [.o 3 .move [.const .U]] []) (.seq (.g [.m 4 (.t 0),
 .c 5 65 [.t 4,.const (.str [123])]] [4,5]) (.seq (.block 0 (.loop T8)) (.seq (.g [.m 18 (.t 0),
 .c 19 67 [.t 18,.const (.str [125])]] [0,18,19]) (.seq (.g [.m 20 (.T 3),.m 2 (.T 20)] []) .ret)))))) }
def s44:aD:={ eZ:=44,mode:=.pure,aE:=1,aM:=4,di:=[],results:=[.box 2 1 4 true,.box 3 2 2 true],body:=
 (.seq (.g [.o 1 (.iA 0 3) [.T 0],.o 2 (.aN 1 [.U,.U,.U,.i 0]) [],.o 3 (.aN 2 [.i 0,.i 0]) []] [])
 (.seq (.g [.o 6 (.build [.U,.i 0,.i 0] []) [],.o 7 (.box 3) [.T 6],.m 4 (.t 7)] [7]) (.seq (.r [.m 8 (.t 4),
 .f 9 0 (.t 1),.l 10 0 (.t 9),.c 11 68 [.t 8,.T 10],.m 12 (.t 4),.f 13 1 (.t 1),
 .l 14 0 (.t 13),.c 15 69 [.t 12,.T 14],.m 16 (.t 4),.f 17 2 (.t 1),
 .l 18 0 (.t 17),.c 19 70 [.t 16,.T 18],
 .o 20 (.build [.U,.U,.U,.i 0] [(0,1),(1,1),(2,1)]) [.T 11,.T 15,.T 19],.o 5 (.aN 3 [.U,.U,.U,.i 0]) [],
 .n (.aj 3 4) [.t 5,.T 20]] (some []) [1,8,9,12,13,16,17]) (.seq (.g [.f 21 2 (.t 5),.l 22 3 (.t 21),
 .c 23 71 [.T 22,.const (.fn 72 [] [])],.f 24 3 (.t 5),.n (.aj 3 1) [.t 24,.t 23]] [21,23,24]) (.seq (.seq (.g [
 .f 25 3 (.t 5),.l 26 3 (.t 25),.o 27 (.aJ .lss) [.t 26,.i 0]] [25,26]) (.cond (.T 27) []
 (.g [.m 28 (.t 4),.c 29 73 [.t 28,.i 0]] [28,29]) [] .skip)) (.seq (.seq (.g [.m 30 (.t 4),
 .o 31 .nilCheck [.t 30],.f 32 1 (.T 31),.f 33 0 (.T 32),.d 34 (.T 33),
 .o 35 (.aJ .neq) [.t 34,.i 0]] [30,34]) (.cond (.T 35) [5] (.seq (.r [.o 36 (.build [.U,.U,.U,.i 0] []) [],
 .m 37 (.t 4),.o 38 .nilCheck [.t 37],.f 39 1 (.T 38),.o 40 (.load true 2 false) [.T 39],.n (.aj 1 4) [.t 2,.T 36],
 .n (.aj 2 2) [.t 3,.t 40]] (some []) [4,37,40]) .ret) [4] .skip)) (.seq (.g [.o 41 (.aL 3 true 4 false) [.t 5],
 .o 42 (.build [.i 0,.i 0] []) [],.n (.aj 1 4) [.t 2,.T 41],.n (.aj 2 2) [.t 3,.t 42]] [5,42]) .ret))))))) }
def s45:aD:={ eZ:=45,mode:=.mR,aE:=3,aM:=3,di:=[],results:=[.box 6 2 3 true],body:=
 (.seq (.g [.o 4 (.iA 0 7) [.T 1],.o 5 (.iA 1 6) [.T 2],.o 6 (.aN 2 [.U,.U,.i 0]) []] []) (.seq (.r [
 .m 8 (.t 0),.m 9 (.t 0),.o 10 (.aL 1 true 6 false) [.t 5],.f 11 1 (.t 5),.l 12 1 (.t 11),
 .c 13 74 [.T 12],.o 14 .nilCheck [.t 8],.f 15 5 (.T 14),.n (.store 6) [.T 15,.T 10],.o 16 .nilCheck [.t 9],
 .f 17 11 (.T 16),.n (.store 1) [.T 17,.T 13]] (some []) [5,8,9,11]) (.seq (.g [.m 18 (.t 0),.f 19 5 (.t 4),
 .l 20 0 (.t 19),.c 21 75 [.t 18,.T 20],.m 7 (.T 21)] [18,19]) (.seq (.r [.m 22 (.t 0),
 .o 23 .nilCheck [.t 22],.f 24 11 (.T 23),.d 25 (.T 24),.m 26 (.T 7),.f 27 6 (.t 4),
 .l 28 0 (.t 27),.o 29 (.build [.U,.U,.i 0] [(0,1),(1,1),(2,1)]) [.T 25,.T 26,.t 28],
 .n (.aj 2 3) [.t 6,.T 29]] (some []) [0,4,22,27,28]) .ret)))) }
def s46:aD:={ eZ:=46,mode:=.mR,aE:=1,aM:=0,di:=[],results:=[.tmp 2 false],body:=
 (.seq (.g [.m 2 (.b false)] [2]) (.seq (.g [.m 3 (.t 0),.o 4 .nilCheck [.t 3],.f 5 12 (.T 4),
 .f 6 0 (.T 5),.d 7 (.T 6),.o 8 (.aJ .neq) [.t 7,.i 0],.m 2 (.t 8)] [0,3,7,8]) .ret)) }
def T9:bE:=
 (.seq (.g [.o 14 (.aJ .lss) [.t 13,.t 12]] []) (.seq (.cond (.T 14) [] .skip [0,11,12,13] (.exit 0)) (.seq (.block 1 (.seq (.g [
 .o 15 (.indexAddr 9) [.t 11,.t 13],.o 16 (.load true 9 false) [.T 15],
 .o 8 (.aN 0 [.i 0,.str [],.str [],.i 0,.U,.U,.U,.i 0,.i 0]) [],.n (.aj 0 9) [.t 8,.T 16]] []) (.g [
 .m 17 (.t 0),.o 18 (.aL 0 true 9 false) [.t 8],.m 19 (.T 2),.c 20 77 [.t 17,.T 18,.T 19],.m 2 (.T 20)] [8,17])))
 (.g [.o 21 (.aJ .add) [.t 13,.i 1],.m 13 (.t 21)] [21]))))
def s47:aD:={ eZ:=47,mode:=.CN,aE:=3,aM:=1,di:=[],results:=[.tmp 6 true],body:=
 (.seq (.g [.o 6 .move [.const .U]] [6]) (.seq (.g [.m 9 (.T 2),.c 10 76 [.T 9],.m 2 (.T 10)] []) (.seq (.seq
 (.g [.m 11 (.T 1),.o 12 (.len .sl) [.t 11],.m 13 (.i 0)] []) (.block 0 (.loop T9))) (.seq (.g [
 .m 22 (.T 2),.m 6 (.T 22)] []) .ret)))) }
def s48:aD:={ eZ:=48,mode:=.mR,aE:=2,aM:=0,di:=[],results:=[],body:=
 (.seq (.g [.m 4 (.t 1),.o 5 (.aJ .neq) [.t 4,.i 0],.m 6 (.t 5),.y 7 .move [.t 0] 6,.y 8 (.call 31) [.t 7] 6,
 .y 9 (.un .not) [.t 8] 6,.o 10 .pick [.t 6,.t 9,.b false]] [4,5,6,7,8,9]) (.cond (.T 10) [] (.g [.m 11 (.t 0),
 .m 12 (.t 0),.m 13 (.t 1),.o 14 .nilCheck [.t 11],.f 15 10 (.T 14),.f 16 0 (.T 15),
 .n (.store 1) [.T 16,.i 2],.o 17 .nilCheck [.t 12],.f 18 10 (.T 17),.f 19 1 (.T 18),
 .n (.store 1) [.T 19,.t 13]] [0,1,11,12,13]) [0,1] .skip)) }
def Ua:bE:=
 (.seq (.g [.o 11 (.aJ .lss) [.t 10,.t 9]] []) (.seq (.cond (.T 11) [] .skip [0,1,8,9,10] (.exit 0)) (.seq (.block 1 (.seq (.g [
 .o 12 (.indexAddr 9) [.t 8,.t 10],.o 13 (.load true 9 false) [.T 12],
 .o 7 (.aN 0 [.i 0,.str [],.str [],.i 0,.U,.U,.U,.i 0,.i 0]) [],.n (.aj 0 9) [.t 7,.T 13]] []) (.seq
 (.seq (.g [.m 14 (.t 1),.o 15 .nilCheck [.t 14],.f 16 2 (.T 15),.d 17 (.T 16),.m 18 (.t 17),
 .z 19 .move [.t 0] 18,.z 20 (.call 31) [.t 19] 18,.o 21 .pick [.t 18,.b true,.t 20]] [14,17,18,19,20]) (.cond (.T 21) [0,1,7,8,9,10]
 .ret [] .skip)) (.g [.m 22 (.t 0),.m 23 (.t 1),.o 24 (.aL 0 true 9 false) [.t 7],
 .c 25 78 [.t 22,.t 23,.T 24]] [7,22,23,25])))) (.g [.o 26 (.aJ .add) [.t 10,.i 1],.m 10 (.t 26)] [26]))))
def s49:aD:={ eZ:=49,mode:=.CN,aE:=3,aM:=1,di:=[],results:=[],body:=
 (.seq (.g [.m 8 (.T 2),.o 9 (.len .sl) [.t 8],.m 10 (.i 0)] []) (.block 0 (.loop Ua))) }
def Ub:bE:=
 (.seq (.seq (.g [.m 59 (.t 4),.f 60 5 (.t 1),.l 61 0 (.t 60),.o 62 (.len .sl) [.T 61],
 .o 63 (.aJ .lss) [.t 59,.t 62]] [59,60,62]) (.cond (.T 63) [] .skip [1,4] (.exit 1))) (.seq (.block 2 (.seq (.seq (.g [.m 66 (.t 4),
 .o 67 (.aJ .gtr) [.t 66,.i 0]] [66]) (.cond (.T 67) [] (.g [.m 68 (.t 3),.o 69 (.aJ .add) [.t 68,.const (.str [44,32])],
 .m 3 (.t 69)] [68,69]) [] .skip)) (.g [.m 70 (.t 3),.f 71 5 (.t 1),.l 72 0 (.t 71),
 .m 73 (.t 4),.o 74 (.indexAddr 11) [.T 72,.t 73],.o 75 (.load true 11 false) [.T 74],.c 76 57 [.T 75],.o 77 (.aJ .add) [.t 70,.t 76],
 .m 3 (.t 77)] [70,71,73,76,77]))) (.g [.m 64 (.t 4),.o 65 (.aJ .add) [.t 64,.i 1],
 .m 4 (.t 65)] [64,65])))
def JR:aD:={ eZ:=57,mode:=.pure,aE:=1,aM:=1,di:=[],results:=[.tmp 2 false],body:=
 (.seq (.g [.o 1 (.iA 0 11) [.T 0],.o 2 .move [.const (.str [])]] [2]) (.seq (.seq (.g [.f 6 0 (.t 1),
 .l 7 0 (.t 6)] [6]) (.block 0 (.seq (.g [.o 9 (.aJ .eql) [.t 7,.i 1],.m 8 (.t 9)] [9])
 (.cond (.T 8) [7] (.seq (.g [.f 10 1 (.t 1),.l 11 0 (.t 10),.c 12 86 [.t 11],
 .m 2 (.t 12)] [1,10,11,12]) .ret) [] (.seq (.g [.o 14 (.aJ .eql) [.t 7,.i 2],.m 13 (.t 14)] [14])
 (.cond (.T 13) [7] (.seq (.seq (.g [.f 15 1 (.t 1),.l 16 0 (.t 15),
 .o 17 (.aJ .eql) [.t 16,.i 1]] [1,15,16]) (.cond (.T 17) [] (.seq (.g [.o 2 .move [.const (.str [116,114,117,101])]] [])
 .ret) [] .skip)) (.seq (.g [.o 2 .move [.const (.str [102,97,108,115,101])]] []) .ret)) [] (.seq (.g [
 .o 19 (.aJ .eql) [.t 7,.i 3],.m 18 (.t 19)] [19]) (.cond (.T 18) [7] (.seq (.g [.f 20 3 (.t 1),
 .o 21 (.aL 0 true 2 false) [.t 20],.c 22 37 [.t 21],.o 23 (.aJ .add) [.const (.str [110,117,108,108,32]),.t 22],
 .m 2 (.t 23)] [1,20,21,22,23]) .ret) [] (.seq (.g [.o 25 (.aJ .eql) [.t 7,.i 4],.m 24 (.t 25)] [25])
 (.cond (.T 24) [7] (.seq (.g [.f 26 2 (.t 1),.l 27 0 (.t 26),.m 2 (.t 27)] [1,26,27]) .ret) [] (.seq
 (.g [.o 29 (.aJ .eql) [.t 7,.i 5],.m 28 (.t 29)] [29]) (.cond (.T 28) [7] (.seq (.r [.f 30 5 (.t 1),
 .l 31 0 (.t 30),.o 32 (.indexAddr 11) [.T 31,.i 0],.o 33 (.load true 11 false) [.T 32],
 .c 34 87 [.T 33,.i 7],.o 35 (.aJ .add) [.t 34,.const (.str [46])],.f 36 2 (.t 1),
 .l 37 0 (.t 36),.o 38 (.aJ .add) [.t 35,.t 37],.m 2 (.t 38)] (some []) [1,30,34,35,36,37,38]) .ret) [] (.seq (.g [
 .o 40 (.aJ .eql) [.t 7,.i 6],.m 39 (.t 40)] [40]) (.cond (.T 39) [7] (.seq (.r [.f 41 5 (.t 1),
 .l 42 0 (.t 41),.o 43 (.indexAddr 11) [.T 42,.i 0],.o 44 (.load true 11 false) [.T 43],
 .c 45 87 [.T 44,.i 7],.o 46 (.aJ .add) [.t 45,.const (.str [91])],.f 47 5 (.t 1),
 .l 48 0 (.t 47),.o 49 (.indexAddr 11) [.T 48,.i 1],.o 50 (.load true 11 false) [.T 49],.c 51 57 [.T 50],
 .o 52 (.aJ .add) [.t 46,.t 51],.o 53 (.aJ .add) [.t 52,.const (.str [93])],.m 2 (.t 53)] (some []) [1,41,45,46,47,51,52,53]) .ret) [] (.seq
 (.g [.o 55 (.aJ .eql) [.t 7,.i 7],.m 54 (.t 55)] [55]) (.cond (.T 54) [7] (.seq (.g [.f 56 2 (.t 1),
 .l 57 0 (.t 56),.o 58 (.aJ .add) [.t 57,.const (.str [40])],.m 3 (.t 58)] [56,57,58]) (.seq (.seq (.g [
 .m 4 (.i 0)] []) (.block 1 (.loop Ub))) (.seq (.g [.m 78 (.t 3),.o 79 (.aJ .add) [.t 78,.const (.str [41])],
 .m 2 (.t 79)] [3,78,79]) .ret))) [] (.seq (.g [.o 81 (.aJ .eql) [.t 7,.i 8],.m 80 (.t 81)] [81])
 (.cond (.T 80) [7] (.seq (.g [.f 82 3 (.t 1),.f 83 0 (.t 82),.l 84 0 (.t 83),
 .o 85 (.aJ .add) [.const (.str [110,101,119,32]),.t 84],.m 2 (.t 85)] [1,82,83,84,85]) .ret) [] (.seq (.g [
 .o 87 (.aJ .eql) [.t 7,.i 9],.m 86 (.t 87)] [87]) (.cond (.T 86) [7] (.seq (.r [.f 88 3 (.t 1),
 .o 89 (.aL 0 true 2 false) [.t 88],.c 90 37 [.t 89],.o 91 (.aJ .add) [.const (.str [110,101,119,32,91]),.t 90],
 .o 92 (.aJ .add) [.t 91,.const (.str [93,40])],.f 93 5 (.t 1),.l 94 0 (.t 93),
 .o 95 (.indexAddr 11) [.T 94,.i 0],.o 96 (.load true 11 false) [.T 95],.c 97 57 [.T 96],.o 98 (.aJ .add) [.t 92,.t 97],
 .o 99 (.aJ .add) [.t 98,.const (.str [41])],.m 2 (.t 99)] (some []) [1,88,89,90,91,92,93,97,98,99]) .ret) [] (.seq (.g [
 .o 101 (.aJ .eql) [.t 7,.i 10],.m 100 (.t 101)] [101]) (.cond (.T 100) [7] (.seq (.g [.f 102 5 (.t 1),
 .l 103 0 (.t 102),.o 104 (.indexAddr 11) [.T 103,.i 0],.o 105 (.load true 11 false) [.T 104],
 .c 106 57 [.T 105],.o 107 (.aJ .add) [.const (.str [108,101,110,40]),.t 106],.o 108 (.aJ .add) [.t 107,.const (.str [41])],
 .m 2 (.t 108)] [1,102,106,107,108]) .ret) [] (.seq (.g [.o 110 (.aJ .eql) [.t 7,.i 11],.m 109 (.t 110)] [110])
 (.cond (.T 109) [1,7] (.seq (.g [.o 2 .move [.const (.str [114,101,97,100,40,41])]] []) .ret) [] (.seq (.g [
 .o 112 (.aJ .eql) [.t 7,.i 12],.m 111 (.t 112)] [112]) (.cond (.T 111) [7] (.seq (.g [.f 113 5 (.t 1),
 .l 114 0 (.t 113),.o 115 (.indexAddr 11) [.T 114,.i 0],.o 116 (.load true 11 false) [.T 115],
 .c 117 87 [.T 116,.i 6],.o 118 (.aJ .add) [.const (.str [45]),.t 117],.m 2 (.t 118)] [1,113,117,118]) .ret) [] (.seq
 (.g [.o 120 (.aJ .eql) [.t 7,.i 13],.m 119 (.t 120)] [7,120]) (.cond (.T 119) [] (.seq (.g [
 .f 121 5 (.t 1),.l 122 0 (.t 121),.o 123 (.indexAddr 11) [.T 122,.i 0],
 .o 124 (.load true 11 false) [.T 123],.c 125 87 [.T 124,.i 6],.o 126 (.aJ .add) [.const (.str [33]),.t 125],
 .m 2 (.t 126)] [1,121,125,126]) .ret) [] .skip)))))))))))))))))))))))))))) (.seq (.g [.o 127 (.aL 0 true 11 false) [.t 1],
 .c 128 88 [.T 127],.m 5 (.t 128)] [128]) (.seq (.r [.f 129 5 (.t 1),.l 130 0 (.t 129),
 .o 131 (.indexAddr 11) [.T 130,.i 0],.o 132 (.load true 11 false) [.T 131],.m 133 (.t 5),.c 134 87 [.T 132,.t 133],
 .o 135 (.aJ .add) [.t 134,.const (.str [32])],.f 136 0 (.t 1),.l 137 0 (.t 136),.c 138 89 [.t 137],
 .o 139 (.aJ .add) [.t 135,.t 138],.o 140 (.aJ .add) [.t 139,.const (.str [32])],.f 141 5 (.t 1),.l 142 0 (.t 141),
 .o 143 (.indexAddr 11) [.T 142,.i 1],.o 144 (.load true 11 false) [.T 143],.m 145 (.t 5),
 .o 146 (.aJ .add) [.t 145,.i 1],.c 147 87 [.T 144,.t 146],.o 148 (.aJ .add) [.t 140,.t 147],
 .m 2 (.t 148)] (some []) [1,5,129,133,134,135,136,137,138,139,140,141,145,146,147,148]) .ret)))) }
def s58:aD:={ eZ:=58,mode:=.pure,aE:=1,aM:=0,di:=[],results:=[.tmp 2 false],body:=
 (.seq (.g [.m 2 (.b false)] [2]) (.seq (.g [.m 3 (.t 0),.o 4 (.aJ .geq) [.t 3,.const (.int .u8 97)],
 .m 5 (.t 4),.y 6 .move [.t 0] 5,.y 7 (.aJ .leq) [.t 6,.const (.int .u8 122)] 5,.o 8 .pick [.t 5,.t 7,.b false],.m 9 (.t 8),
 .z 10 .move [.t 0] 9,.z 11 (.aJ .geq) [.t 10,.const (.int .u8 65)] 9,.z 12 .move [.t 11] 9,.y 13 .move [.t 0] 12,
 .y 14 (.aJ .leq) [.t 13,.const (.int .u8 90)] 12,.z 15 .pick [.t 12,.t 14,.b false] 9,.o 16 .pick [.t 9,.b true,.t 15],
 .m 2 (.t 16)] [0,3,4,5,6,7,8,9,10,11,12,13,14,15,16]) .ret)) }
def Uc:bE:=
 (.seq (.seq (.g [.m 8 (.t 1),.m 9 (.t 7),.o 10 (.aJ .add) [.t 8,.t 9],.m 11 (.t 0),.o 12 (.len .str) [.t 11],
 .o 13 (.aJ .lss) [.t 10,.t 12],.m 14 (.t 13),.y 15 .move [.t 0] 14,.y 16 .move [.t 1] 14,.y 17 .move [.t 7] 14,.y 18 (.aJ .add) [.t 16,.t 17] 14,
 .y 19 .index [.t 15,.t 18] 14,.y 20 (.call 62) [.t 19] 14,.y 21 .move [.t 20] 14,.z 22 .move [.t 2] 21,.z 23 (.un .not) [.t 22] 21,
 .z 24 .move [.t 23] 21,.y 25 .move [.t 0] 24,.y 26 .move [.t 1] 24,.y 27 .move [.t 7] 24,.y 28 (.aJ .add) [.t 26,.t 27] 24,
 .y 29 .index [.t 25,.t 28] 24,.y 30 (.call 58) [.t 29] 24,.z 31 .pick [.t 24,.t 30,.b false] 21,
 .y 32 .pick [.t 21,.b true,.t 31] 14,
 .o 33 .pick [.t 14,.t 32,.b false]] [8,9,10,11,12,13,14,15,16,17,18,19,20,21,22,23,24,25,26,27,28,29,30,31,32]) (.cond (.T 33) []
 .skip [0,1,2] (.exit 0))) (.block 1 (.g [.m 34 (.t 7),.o 35 (.aJ .add) [.t 34,.i 1],.m 7 (.t 35)] [34,35])))
def s59:aD:={ eZ:=59,mode:=.pure,aE:=3,aM:=0,di:=[],results:=[.tmp 6 false],body:=
 (.seq (.g [.m 6 (.i 0)] [6]) (.seq (.g [.m 7 (.i 0)] []) (.seq (.block 0 (.loop Uc))
 (.seq (.g [.m 36 (.t 7),.m 6 (.t 36)] [7,36]) .ret)))) }
def Ud:bE:=
 (.seq (.seq (.g [.m 6 (.t 4),.m 7 (.t 3),.o 8 (.len .sl) [.T 7],.o 9 (.aJ .lss) [.t 6,.t 8]] [6,8]) (.cond (.T 9) [] .skip [0,3,4]
 (.exit 0))) (.seq (.block 1 (.seq (.g [.m 12 (.t 3),.m 13 (.t 4),.o 14 (.indexAddr 1) [.T 12,.t 13],.d 15 (.T 14),
 .m 16 (.t 0),.o 17 (.aJ .eql) [.t 15,.t 16]] [13,15,16]) (.cond (.T 17) [0,3,4] (.seq (.g [.m 2 (.b true)] [])
 .ret) [] .skip))) (.g [.m 10 (.t 4),.o 11 (.aJ .add) [.t 10,.i 1],.m 4 (.t 11)] [10,11])))
def s60:aD:={ eZ:=60,mode:=.pure,aE:=1,aM:=0,di:=[],results:=[.tmp 2 false],body:=
 (.seq (.g [.m 2 (.b false)] [2]) (.seq (.g [.c 5 90 [],.m 3 (.T 5)] []) (.seq (.seq (.g [
 .m 4 (.i 0)] []) (.block 0 (.loop Ud))) (.seq (.g [.m 2 (.b false)] []) .ret)))) }
def Ue:bE:=
 (.seq (.seq (.g [.m 22 (.t 3),.m 23 (.t 0),.o 24 (.len .str) [.t 23],.o 25 (.aJ .lss) [.t 22,.t 24]] [22,23,24]) (.cond (.T 25) []
 .skip [0,3] (.exit 0))) (.seq (.block 1 (.seq (.g [.m 28 (.t 0),.m 29 (.t 3),.o 30 .index [.t 28,.t 29],.c 31 58 [.t 30],
 .o 32 (.un .not) [.t 31],.m 33 (.t 32),.y 34 .move [.t 0] 33,.y 35 .move [.t 3] 33,.y 36 .index [.t 34,.t 35] 33,.y 37 (.call 62) [.t 36] 33,
 .y 38 (.un .not) [.t 37] 33,.o 39 .pick [.t 33,.t 38,.b false]] [28,29,30,31,32,33,34,35,36,37,38]) (.cond (.T 39) [0,3] (.seq (.g [
 .m 2 (.b false)] []) .ret) [] .skip))) (.g [.m 26 (.t 3),.o 27 (.aJ .add) [.t 26,.i 1],
 .m 3 (.t 27)] [26,27])))
def s61:aD:={ eZ:=61,mode:=.pure,aE:=1,aM:=0,di:=[],results:=[.tmp 2 false],body:=
 (.seq (.g [.m 2 (.b false)] [2]) (.seq (.seq (.g [.m 4 (.t 0),.o 5 (.len .str) [.t 4],
 .o 6 (.aJ .lss) [.t 5,.i 1],.m 7 (.t 6),.z 8 .move [.t 0] 7,.z 9 (.len .str) [.t 8] 7,
 .z 10 (.aJ .gtr) [.t 9,.i 8] 7,.o 11 .pick [.t 7,.b true,.t 10],.m 12 (.t 11),.z 13 .move [.t 0] 12,
 .z 14 .index [.t 13,.i 0] 12,.z 15 (.call 58) [.t 14] 12,.z 16 (.un .not) [.t 15] 12,.o 17 .pick [.t 12,.b true,.t 16],
 .m 18 (.t 17),.z 19 .move [.t 0] 18,.z 20 (.call 60) [.t 19] 18,
 .o 21 .pick [.t 18,.b true,.t 20]] [4,5,6,7,8,9,10,11,12,13,14,15,16,17,18,19,20]) (.cond (.T 21) [0] (.seq (.g [
 .m 2 (.b false)] []) .ret) [] .skip)) (.seq (.seq (.g [.m 3 (.i 0)] []) (.block 0 (.loop Ue)))
 (.seq (.g [.m 2 (.b true)] []) .ret)))) }
def s62:aD:={ eZ:=62,mode:=.pure,aE:=1,aM:=0,di:=[],results:=[.tmp 2 false],body:=
 (.seq (.g [.m 2 (.b false)] [2]) (.seq (.g [.m 3 (.t 0),.o 4 (.aJ .geq) [.t 3,.const (.int .u8 48)],
 .m 5 (.t 4),.y 6 .move [.t 0] 5,.y 7 (.aJ .leq) [.t 6,.const (.int .u8 57)] 5,.o 8 .pick [.t 5,.t 7,.b false],
 .m 2 (.t 8)] [0,3,4,5,6,7,8]) .ret)) }
def Uf:bE:=
 (.seq (.seq (.g [.m 7 (.t 5),.m 8 (.t 0),.o 9 (.len .str) [.t 8],.o 10 (.aJ .lss) [.t 7,.t 9]] [7,8,9]) (.cond (.T 10) []
 .skip [0,5] (.exit 0))) (.seq (.block 1 (.seq (.g [.m 13 (.t 0),.m 14 (.t 5),.o 15 .index [.t 13,.t 14],
 .o 16 (.aJ .sub) [.t 15,.const (.int .u8 48)],.o 17 (.conv .i64) [.t 16],.m 6 (.t 17)] [13,14,15,16,17]) (.seq (.seq (.g [
 .m 18 (.t 4),.m 19 (.t 6),.o 20 (.aJ .sub) [.i 9223372036854775807,.t 19],.o 21 (.aJ .quo) [.t 20,.i 10],
 .o 22 (.aJ .gtr) [.t 18,.t 21]] [18,19,20,21]) (.cond (.T 22) [0,4,5,6] (.seq (.g [.m 2 (.i 0),
 .m 3 (.b false)] []) .ret) [] .skip)) (.g [.m 23 (.t 4),.o 24 (.aJ .mul) [.i 10,.t 23],
 .m 25 (.t 6),.o 26 (.aJ .add) [.t 24,.t 25],.m 4 (.t 26)] [6,23,24,25,26])))) (.g [.m 11 (.t 5),
 .o 12 (.aJ .add) [.t 11,.i 1],.m 5 (.t 12)] [11,12])))
def s63:aD:={ eZ:=63,mode:=.pure,aE:=1,aM:=0,di:=[],results:=[.tmp 2 false,.tmp 3 false],body:=
 (.seq (.g [.m 2 (.i 0),.m 3 (.b false)] [2,3]) (.seq (.g [
 .m 4 (.i 0)] []) (.seq (.seq (.g [.m 5 (.i 0)] []) (.block 0 (.loop Uf))) (.seq (.g [
 .m 27 (.t 4),.m 2 (.t 27),.m 3 (.b true)] [4,27]) .ret)))) }
def Ug:bE:=
 (.seq (.seq (.g [.m 10 (.t 6),.m 11 (.t 5),.o 12 (.len .sl) [.T 11],.o 13 (.aJ .lss) [.t 10,.t 12]] [10,12]) (.cond (.T 13) []
 .skip [5,6] (.exit 0))) (.seq (.block 1 (.seq (.r [.m 16 (.t 0),.o 17 (.len .str) [.t 16],.m 18 (.t 1),.o 19 (.aJ .sub) [.t 17,.t 18],
 .o 20 (.aJ .geq) [.t 19,.i 2],.m 21 (.t 20),.y 22 .move [.t 0] 21,.y 23 .move [.t 1] 21,.y 24 .move [.t 1] 21,
 .y 25 (.aJ .add) [.t 24,.i 2] 21,.y 26 (.slice true true true false 0) [.t 22,.t 23,.t 25] 21,.y 27 .move [.t 5] 21,.y 28 .move [.t 6] 21,
 .y 29 (.indexAddr 1) [.T 27,.t 28] 21,.y 30 (.load false 1 false) [.T 29] 21,.y 31 (.aJ .eql) [.t 26,.t 30] 21,
 .o 32 .pick [.t 21,.t 31,.b false]] (some []) [16,17,18,19,20,21,22,23,24,25,26,27,28,29,30,31]) (.cond (.T 32) [0,1] (.seq (.g [
 .m 33 (.T 5),.m 34 (.t 6),.o 35 (.indexAddr 1) [.T 33,.t 34],.d 36 (.T 35),.m 4 (.t 36)] [6,34,36]) .ret) []
 .skip))) (.g [.m 14 (.t 6),.o 15 (.aJ .add) [.t 14,.i 1],.m 6 (.t 15)] [14,15])))
def Uh:bE:=
 (.seq (.seq (.g [.m 37 (.t 8),.m 38 (.t 7),.o 39 (.len .str) [.t 38],.o 40 (.aJ .lss) [.t 37,.t 39]] [37,38,39]) (.cond (.T 40) []
 .skip [0,1,7,8] (.exit 2))) (.seq (.block 3 (.seq (.r [.m 43 (.t 0),.m 44 (.t 1),.o 45 .index [.t 43,.t 44],.m 46 (.t 7),
 .m 47 (.t 8),.o 48 .index [.t 46,.t 47],.o 49 (.aJ .eql) [.t 45,.t 48]] (some []) [43,44,45,46,47,48]) (.cond (.T 49) [0,1] (.seq (.g [
 .m 50 (.t 7),.m 51 (.t 8),.m 52 (.t 8),.o 53 (.aJ .add) [.t 52,.i 1],
 .o 54 (.slice true true true false 0) [.t 50,.t 51,.t 53],.m 4 (.t 54)] [7,8,50,51,52,53,54]) .ret) [] .skip))) (.g [.m 41 (.t 8),
 .o 42 (.aJ .add) [.t 41,.i 1],.m 8 (.t 42)] [41,42])))
def s64:aD:={ eZ:=64,mode:=.pure,aE:=2,aM:=0,di:=[],results:=[.tmp 4 false],body:=
 (.seq (.g [.o 4 .move [.const (.str [])]] [4]) (.seq (.g [
 .o 9 (.lit 1 5 [.str []] [0,1,2,3,4]) [.const (.str [60,61]),.const (.str [61,61]),.const (.str [33,61]),.const (.str [38,38]),.const (.str [124,124])],
 .m 5 (.T 9)] []) (.seq (.seq (.g [.m 6 (.i 0)] []) (.block 0 (.loop Ug))) (.seq (.g [
 .o 7 .move [.const (.str [123,125,40,41,91,93,59,58,44,46,61,43,45,42,47,37,60,33])]] []) (.seq (.seq (.g [
 .m 8 (.i 0)] []) (.block 2 (.loop Uh))) (.seq (.g [.o 4 .move [.const (.str [])]] []) .ret)))))) }
def s65:aD:={ eZ:=65,mode:=.mR,aE:=2,aM:=0,di:=[],results:=[],body:=
 (.seq (.seq (.g [.m 4 (.t 0),.m 5 (.t 1),.c 6 21 [.t 4,.t 5],.m 7 (.t 6),.y 8 .move [.t 0] 7,.y 9 .nilCheck [.t 8] 7,
 .y 10 (.fieldAddr 2) [.T 9] 7,.y 11 (.load false 1 false) [.T 10] 7,.y 12 (.aJ .geq) [.t 11,.i 50] 7,
 .o 13 .pick [.t 7,.t 12,.b false]] [4,5,6,7,8,9,10,11,12]) (.cond (.T 13) [1] (.seq (.g [.m 14 (.t 0),
 .c 15 22 [.t 14,.i 4]] [0,14,15]) .ret) [] .skip)) (.seq (.g [.m 16 (.t 0),.m 17 (.t 1),
 .c 18 25 [.t 16,.t 17]] [1,16,17,18]) (.g [.m 19 (.t 0),.o 20 .nilCheck [.t 19],.f 21 2 (.T 20),
 .d 22 (.T 21),.o 23 (.aJ .add) [.t 22,.i 1],.o 24 .nilCheck [.t 19],.f 25 2 (.T 24),
 .n (.store 1) [.T 25,.t 23]] [0,19,22,23]))) }
def Ui:aD:={ eZ:=66,mode:=.mR,aE:=1,aM:=3,di:=[],results:=[.box 2 0 9 true],body:=
 (.seq (.g [.o 2 (.aN 0 [.i 0,.str [],.str [],.i 0,.U,.U,.U,.i 0,.i 0]) []] []) (.seq (.g [
 .m 5 (.t 0),.c 6 20 [.t 5],.o 3 (.aN 1 [.i 0,.str [],.i 0,.i 0]) [],.n (.aj 1 4) [.t 3,.t 6]] [5,6]) (.seq
 (.g [.f 7 3 (.t 3),.l 8 1 (.t 7),
 .o 9 (.build [.i 0,.str [],.str [],.i 0,.U,.U,.U,.i 0,.i 0] [(7,1)]) [.t 8],
 .o 4 (.aN 2 [.i 0,.str [],.str [],.i 0,.U,.U,.U,.i 0,.i 0]) [],.n (.aj 2 9) [.t 4,.T 9]] [7,8]) (.seq
 (.block 0 (.seq (.seq (.g [.m 14 (.t 0),.c 15 21 [.t 14,.const (.str [118,97,114])],.m 13 (.t 15)] [14,15]) (.cond (.t 13) []
 .skip [13] (.g [.m 16 (.t 0),.c 17 21 [.t 16,.const (.str [108,101,116])],.m 13 (.t 17)] [16,17]))) (.cond (.T 13) [] (.seq
 (.g [.m 18 (.t 0),.o 19 .nilCheck [.t 18],.f 20 1 (.T 19),.d 21 (.T 20),
 .o 22 (.aJ .add) [.t 21,.i 1],.o 23 .nilCheck [.t 18],.f 24 1 (.T 23),.n (.store 1) [.T 24,.t 22]] [18,21,22]) (.seq
 (.g [.f 25 0 (.t 4),.n (.aj 2 1) [.t 25,.i 1]] [25]) (.seq (.g [.m 26 (.t 0),
 .c 27 41 [.t 26],.f 28 1 (.t 4),.n (.aj 2 1) [.t 28,.t 27]] [26,27,28]) (.seq (.g [.m 29 (.t 0),
 .c 30 25 [.t 29,.const (.str [58])]] [29,30]) (.seq (.g [.m 31 (.t 0),.c 32 42 [.t 31],.f 33 2 (.t 4),
 .n (.aj 2 2) [.t 33,.t 32]] [31,32,33]) (.seq (.seq (.g [.f 34 1 (.t 3),.l 35 1 (.t 34),
 .o 36 (.aJ .eql) [.t 35,.const (.str [108,101,116])]] [3,34,35]) (.cond (.T 36) [] (.seq (.g [.f 37 0 (.t 4),
 .n (.aj 2 1) [.t 37,.i 2]] [37]) (.seq (.g [.m 38 (.t 0),.c 39 25 [.t 38,.const (.str [61])]] [38,39])
 (.g [.m 40 (.t 0),.c 41 91 [.t 40,.i 0],
 .o 42 (.lit 11 1 [.i 0,.i 0,.str [],.str [],.i 0,.U,.i 0,.i 0,.i 0,.i 0,.i 0] [0]) [.T 41],
 .f 43 4 (.t 4),.n (.aj 2 1) [.t 43,.T 42]] [40,43]))) [] .skip)) (.g [.m 44 (.t 0),
 .c 45 25 [.t 44,.const (.str [59])]] [0,44,45]))))))) [3] (.seq (.g [.m 47 (.t 0),.c 48 21 [.t 47,.const (.str [105,102])],
 .m 46 (.t 48)] [47,48]) (.cond (.T 46) [] (.seq (.g [.m 49 (.t 0),.o 50 .nilCheck [.t 49],.f 51 1 (.T 50),
 .d 52 (.T 51),.o 53 (.aJ .add) [.t 52,.i 1],.o 54 .nilCheck [.t 49],.f 55 1 (.T 54),
 .n (.store 1) [.T 55,.t 53]] [49,52,53]) (.seq (.g [.f 56 0 (.t 4),.n (.aj 2 1) [.t 56,.i 5]] [56]) (.seq
 (.g [.m 57 (.t 0),.c 58 91 [.t 57,.i 0],
 .o 59 (.lit 11 1 [.i 0,.i 0,.str [],.str [],.i 0,.U,.i 0,.i 0,.i 0,.i 0,.i 0] [0]) [.T 58],
 .f 60 4 (.t 4),.n (.aj 2 1) [.t 60,.T 59]] [57,60]) (.seq (.g [.m 61 (.t 0),.c 62 43 [.t 61],
 .f 63 5 (.t 4),.n (.aj 2 1) [.t 63,.T 62]] [61,63]) (.seq (.g [.m 64 (.t 0),
 .c 65 21 [.t 64,.const (.str [101,108,115,101])]] [64]) (.cond (.T 65) [] (.seq (.g [.m 66 (.t 0),.o 67 .nilCheck [.t 66],
 .f 68 1 (.T 67),.d 69 (.T 68),.o 70 (.aJ .add) [.t 69,.i 1],.o 71 .nilCheck [.t 66],
 .f 72 1 (.T 71),.n (.store 1) [.T 72,.t 70]] [66,69,70]) (.g [.m 73 (.t 0),.c 74 43 [.t 73],
 .f 75 6 (.t 4),.n (.aj 2 1) [.t 75,.T 74]] [0,73,75])) [0] .skip)))))) [] (.seq (.g [.m 77 (.t 0),
 .c 78 21 [.t 77,.const (.str [119,104,105,108,101])],.m 76 (.t 78)] [77,78]) (.cond (.T 76) [] (.seq (.g [.m 79 (.t 0),
 .o 80 .nilCheck [.t 79],.f 81 1 (.T 80),.d 82 (.T 81),.o 83 (.aJ .add) [.t 82,.i 1],
 .o 84 .nilCheck [.t 79],.f 85 1 (.T 84),.n (.store 1) [.T 85,.t 83]] [79,82,83]) (.seq (.g [.f 86 0 (.t 4),
 .n (.aj 2 1) [.t 86,.i 6]] [86]) (.seq (.g [.m 87 (.t 0),.c 88 91 [.t 87,.i 0],
 .o 89 (.lit 11 1 [.i 0,.i 0,.str [],.str [],.i 0,.U,.i 0,.i 0,.i 0,.i 0,.i 0] [0]) [.T 88],
 .f 90 4 (.t 4),.n (.aj 2 1) [.t 90,.T 89]] [87,90]) (.g [.m 91 (.t 0),.c 92 43 [.t 91],
 .f 93 5 (.t 4),.n (.aj 2 1) [.t 93,.T 92]] [0,91,93])))) [] (.seq (.g [.m 95 (.t 0),
 .c 96 21 [.t 95,.const (.str [114,101,116,117,114,110])],.m 94 (.t 96)] [95,96]) (.cond (.T 94) [] (.seq (.g [.m 97 (.t 0),
 .o 98 .nilCheck [.t 97],.f 99 1 (.T 98),.d 100 (.T 99),.o 101 (.aJ .add) [.t 100,.i 1],
 .o 102 .nilCheck [.t 97],.f 103 1 (.T 102),.n (.store 1) [.T 103,.t 101]] [97,100,101]) (.seq (.g [.f 104 0 (.t 4),
 .n (.aj 2 1) [.t 104,.i 7]] [104]) (.seq (.seq (.g [.m 105 (.t 0),.c 106 21 [.t 105,.const (.str [59])],
 .o 107 (.un .not) [.t 106]] [105,106]) (.cond (.T 107) [] (.g [.m 108 (.t 0),.c 109 91 [.t 108,.i 0],
 .o 110 (.lit 11 1 [.i 0,.i 0,.str [],.str [],.i 0,.U,.i 0,.i 0,.i 0,.i 0,.i 0] [0]) [.T 109],
 .f 111 4 (.t 4),.n (.aj 2 1) [.t 111,.T 110]] [108,111]) [] .skip)) (.g [.m 112 (.t 0),
 .c 113 25 [.t 112,.const (.str [59])]] [0,112,113])))) [] (.seq (.g [.m 115 (.t 0),
 .c 116 21 [.t 115,.const (.str [112,114,105,110,116])],.m 114 (.t 116)] [115,116]) (.cond (.T 114) [] (.seq (.g [
 .m 117 (.t 0),.o 118 .nilCheck [.t 117],.f 119 1 (.T 118),.d 120 (.T 119),
 .o 121 (.aJ .add) [.t 120,.i 1],.o 122 .nilCheck [.t 117],.f 123 1 (.T 122),
 .n (.store 1) [.T 123,.t 121]] [117,120,121]) (.seq (.g [.f 124 0 (.t 4),.n (.aj 2 1) [.t 124,.i 8]] [124])
 (.seq (.g [.m 125 (.t 0),.c 126 91 [.t 125,.i 0],
 .o 127 (.lit 11 1 [.i 0,.i 0,.str [],.str [],.i 0,.U,.i 0,.i 0,.i 0,.i 0,.i 0] [0]) [.T 126],
 .f 128 4 (.t 4),.n (.aj 2 1) [.t 128,.T 127]] [125,128]) (.g [.m 129 (.t 0),
 .c 130 25 [.t 129,.const (.str [59])]] [0,129,130])))) [] (.seq (.g [.m 10 (.t 0),.o 11 (.aL 2 true 9 false) [.t 4],
 .c 12 92 [.t 10,.T 11],.n (.aj 0 9) [.t 2,.T 12]] [0,4,10]) .ret)))))))))))) (.seq (.g [.o 131 (.aL 2 true 9 false) [.t 4],
 .n (.aj 0 9) [.t 2,.T 131]] [4]) .ret))))) }
def s67:aD:={ eZ:=67,mode:=.mR,aE:=2,aM:=0,di:=[],results:=[],body:=
 (.seq (.g [.m 4 (.t 0),.m 5 (.t 1),.c 6 25 [.t 4,.t 5]] [1,4,5,6]) (.g [.m 7 (.t 0),.o 8 .nilCheck [.t 7],
 .f 9 2 (.T 8),.d 10 (.T 9),.o 11 (.aJ .sub) [.t 10,.i 1],.o 12 .nilCheck [.t 7],
 .f 13 2 (.T 12),.n (.store 1) [.T 13,.t 11]] [0,7,10,11])) }
def Uj:bE:=
 (.seq (.g [.o 13 (.aJ .lss) [.t 12,.t 11]] []) (.seq (.cond (.T 13) [] .skip [10,11,12] (.exit 0)) (.seq (.block 1 (.seq (.g [
 .o 14 (.indexAddr 3) [.t 10,.t 12],.o 15 (.load true 3 false) [.T 14],.o 6 (.aN 0 [.str [],.U,.i 0]) [],
 .n (.aj 0 3) [.t 6,.T 15]] []) (.seq (.seq (.r [.m 16 (.t 0),.o 17 .nilCheck [.t 16],.f 18 0 (.T 17),
 .d 19 (.T 18),.f 20 0 (.t 6),.l 21 0 (.t 20),
 .c 22 93 [.T 19,.t 21]] (some []) [16,20,21]) (.cond (.T 22) [] (.g [.m 23 (.t 0),.f 24 2 (.t 6),
 .l 25 0 (.t 24),.c 26 73 [.t 23,.t 25]] [23,24,25,26]) [] .skip)) (.r [.m 27 (.t 0),.m 28 (.t 0),
 .o 29 .nilCheck [.t 28],.f 30 0 (.T 29),.o 31 (.load false 1 true) [.T 30],.f 32 0 (.t 6),
 .l 33 0 (.t 32),.o 34 (.lit 1 1 [.str []] [0]) [.t 33],.o 35 (.append 1 16) [.T 31,.T 34],.o 36 .nilCheck [.t 27],
 .f 37 0 (.T 36),.n (.store 1) [.T 37,.T 35]] (some []) [6,27,28,32,33])))) (.g [.o 38 (.aJ .add) [.t 12,.i 1],
 .m 12 (.t 38)] [38]))))
def Uk:bE:=
 (.seq (.g [.o 42 (.aJ .lss) [.t 41,.t 40]] []) (.seq (.cond (.T 42) [] .skip [0,39,40,41] (.exit 2)) (.seq (.block 3 (.seq (.g [
 .o 43 (.indexAddr 3) [.t 39,.t 41],.o 44 (.load true 3 false) [.T 43],.o 9 (.aN 1 [.str [],.U,.i 0]) [],
 .n (.aj 1 3) [.t 9,.T 44]] []) (.r [.m 45 (.T 7),.f 46 0 (.t 9),.l 47 1 (.t 46),
 .m 48 (.t 0),.f 49 1 (.t 9),.l 50 1 (.t 49),.c 51 69 [.t 48,.T 50],
 .o 52 (.build [.str [],.U] [(0,1),(1,1)]) [.t 47,.T 51],.o 53 (.lit 2 1 [.str [],.U] [0]) [.T 52],.o 54 (.append 2 40) [.T 45,.T 53],
 .m 7 (.T 54)] (some []) [9,46,47,48,49]))) (.g [.o 55 (.aJ .add) [.t 41,.i 1],.m 41 (.t 55)] [55]))))
def s68:aD:={ eZ:=68,mode:=.mR,aE:=2,aM:=2,di:=[],results:=[.tmp 4 true],body:=
 (.seq (.g [.o 4 .move [.const .U]] [4]) (.seq (.seq (.g [.m 10 (.t 1),.o 11 (.len .sl) [.t 10],
 .m 12 (.i 0)] []) (.block 0 (.loop Uj))) (.seq (.g [.o 7 .move [.const .U]] []) (.seq (.seq (.g [
 .m 39 (.T 1),.o 40 (.len .sl) [.t 39],.m 41 (.i 0)] []) (.block 2 (.loop Uk))) (.seq (.g [.m 56 (.T 7),
 .m 4 (.T 56)] []) .ret))))) }
def Ul:bE:=
 (.seq (.g [.o 15 (.aJ .lss) [.t 14,.t 13]] []) (.seq (.cond (.T 15) [] .skip [0,6,12,13,14] (.exit 0)) (.seq (.block 1 (.seq (.g [
 .o 16 (.indexAddr 4) [.t 12,.t 14],.o 17 (.load true 4 false) [.T 16],.o 8 (.aN 0 [.str [],.str [],.i 0,.i 0]) [],
 .n (.aj 0 4) [.t 8,.t 17]] [17]) (.seq (.seq (.g [.m 19 (.t 6),.f 20 0 (.t 8),.l 21 0 (.t 20),
 .o 22 (.lookup .str (.agg []) true) [.t 19,.t 21],.m 18 (.T 22),.o 23 (.extract 0) [.t 18],.o 24 (.extract 1) [.T 18],.o 9 (.aN 1 []) [],
 .n (.aj 1 0) [.t 9,.t 23],.m 10 (.t 24)] [9,19,20,21,23,24]) (.seq (.g [.m 25 (.t 10)] [10]) (.cond (.T 25) [] (.g [
 .m 26 (.t 0),.f 27 3 (.t 8),.l 28 0 (.t 27),.c 29 73 [.t 26,.t 28]] [26,27,28,29]) [] .skip))) (.seq
 (.g [.m 30 (.t 6),.f 31 0 (.t 8),.l 32 0 (.t 31),.o 33 (.build [] []) [],
 .n (.mapUpdate .str) [.t 30,.t 32,.t 33]] [30,31,32,33]) (.r [.m 34 (.T 5),.f 35 0 (.t 8),
 .l 36 0 (.t 35),.m 37 (.t 0),.f 38 1 (.t 8),.o 39 (.aL 0 true 2 false) [.t 38],.f 40 3 (.t 8),
 .l 41 0 (.t 40),.c 42 94 [.t 37,.t 39,.t 41],
 .o 43 (.build [.str [],.i 0,.i 0,.i 0] [(0,1),(1,3)]) [.t 36,.t 42],
 .o 44 (.lit 4 1 [.str [],.i 0,.i 0,.i 0] [0]) [.t 43],.o 45 (.append 4 40) [.T 34,.T 44],
 .m 5 (.T 45)] (some []) [8,35,36,37,38,39,40,41,42,43]))))) (.g [.o 46 (.aJ .add) [.t 14,.i 1],
 .m 14 (.t 46)] [46]))))
def s69:aD:={ eZ:=69,mode:=.mR,aE:=2,aM:=2,di:=[],results:=[.tmp 4 true],body:=
 (.seq (.g [.o 4 .move [.const .U]] [4]) (.seq (.g [.o 5 .move [.const .U]] []) (.seq (.g [.o 11 .makeMap [],
 .m 6 (.t 11)] [11]) (.seq (.seq (.g [.m 12 (.T 1),.o 13 (.len .sl) [.t 12],.m 14 (.i 0)] []) (.block 0
 (.loop Ul))) (.seq (.g [.m 47 (.T 5),.m 4 (.T 47)] []) .ret))))) }
def Um:bE:=
 (.seq (.g [.o 16 (.aJ .lss) [.t 15,.t 14]] []) (.seq (.cond (.T 16) [] .skip [0,6,13,14,15] (.exit 0)) (.seq (.block 1 (.seq (.g [
 .o 17 (.indexAddr 7) [.t 13,.t 15],.o 18 (.load true 7 false) [.T 17],
 .o 8 (.aN 0 [.str [],.U,.bool false,.str [],.i 0,.U,.i 0]) [],.n (.aj 0 7) [.t 8,.T 18]] []) (.seq (.seq (.g [
 .m 20 (.t 6),.f 21 0 (.t 8),.l 22 0 (.t 21),.o 23 (.lookup .str (.agg []) true) [.t 20,.t 22],
 .m 19 (.T 23),.o 24 (.extract 0) [.t 19],.o 25 (.extract 1) [.T 19],.o 9 (.aN 1 []) [],.n (.aj 1 0) [.t 9,.t 24],
 .m 10 (.t 25)] [9,20,21,22,24,25]) (.seq (.g [.m 26 (.t 10)] [10]) (.cond (.T 26) [] (.g [.m 27 (.t 0),
 .f 28 6 (.t 8),.l 29 0 (.t 28),.c 30 73 [.t 27,.t 29]] [27,28,29,30]) [] .skip))) (.seq (.g [
 .m 31 (.t 6),.f 32 0 (.t 8),.l 33 0 (.t 32),.o 34 (.build [] []) [],
 .n (.mapUpdate .str) [.t 31,.t 33,.t 34]] [31,32,33,34]) (.seq (.r [.f 35 0 (.t 8),.l 36 0 (.t 35),
 .m 37 (.t 0),.f 38 1 (.t 8),.l 39 0 (.t 38),.c 40 69 [.t 37,.T 39],.f 41 2 (.t 8),
 .l 42 0 (.t 41),
 .o 43 (.build [.str [],.U,.bool false,.i 0,.i 0,.i 0] [(0,1),(1,1),(2,1)]) [.t 36,.T 40,.t 42],
 .o 11 (.aN 2 [.str [],.U,.bool false,.i 0,.i 0,.i 0]) [],.n (.aj 2 6) [.t 11,.T 43]] (some []) [35,36,37,38,41,42]) (.seq
 (.seq (.g [.f 44 2 (.t 8),.l 45 0 (.t 44)] [44]) (.cond (.T 45) [] (.g [.m 46 (.t 0),
 .f 47 3 (.t 8),.o 48 (.aL 0 true 2 false) [.t 47],.f 49 6 (.t 8),.l 50 0 (.t 49),
 .c 51 94 [.t 46,.t 48,.t 50],.f 52 3 (.t 11),.n (.aj 2 3) [.t 52,.t 51]] [8,46,47,48,49,50,51,52]) [8] .skip)) (.g [
 .m 53 (.T 5),.o 54 (.aL 2 true 6 false) [.t 11],.o 55 (.lit 6 1 [.str [],.U,.bool false,.i 0,.i 0,.i 0] [0]) [.T 54],
 .o 56 (.append 6 72) [.T 53,.T 55],.m 5 (.T 56)] [11]))))))) (.g [.o 57 (.aJ .add) [.t 15,.i 1],
 .m 15 (.t 57)] [57]))))
def s70:aD:={ eZ:=70,mode:=.mR,aE:=2,aM:=3,di:=[],results:=[.tmp 4 true],body:=
 (.seq (.g [.o 4 .move [.const .U]] [4]) (.seq (.g [.o 5 .move [.const .U]] []) (.seq (.g [.o 12 .makeMap [],
 .m 6 (.t 12)] [12]) (.seq (.seq (.g [.m 13 (.T 1),.o 14 (.len .sl) [.t 13],.m 15 (.i 0)] []) (.block 0
 (.loop Um))) (.seq (.g [.m 58 (.T 5),.m 4 (.T 58)] []) .ret))))) }
def Nc:bE:=
 (.seq (.g [.o 9 (.aJ .lss) [.t 8,.t 7]] []) (.seq (.cond (.T 9) [] .skip [0,1,7,8] (.exit 0)) (.seq (.block 1 (.seq (.g [.m 10 (.t 8),
 .m 5 (.t 10)] [10]) (.seq (.g [.m 11 (.t 1),.m 12 (.t 0),.m 13 (.t 5),.o 14 (.indexAddr 6) [.T 12,.t 13],
 .o 15 (.load true 6 false) [.T 14],.o 16 .qW [.t 11,.T 15]] [11,13]) (.cond (.T 16) [0,1,7,8] (.seq (.g [.m 17 (.t 5),
 .m 4 (.t 17)] [5,17]) .ret) [5] .skip)))) (.g [.o 18 (.aJ .add) [.t 8,.i 1],.m 8 (.t 18)] [18]))))
def s71:aD:={ eZ:=71,mode:=.mR,aE:=2,aM:=0,di:=[],results:=[.tmp 4 false],body:=
 (.seq (.g [.m 4 (.i 0)] [4]) (.seq (.seq (.g [.m 6 (.t 0),.o 7 (.len .sl) [.T 6],
 .m 8 (.i 0)] []) (.block 0 (.loop Nc))) (.seq (.g [.o 4 .move [.const (.i (-1))]] []) .ret))) }
def s72:aD:={ eZ:=72,mode:=.pure,aE:=1,aM:=1,di:=[],results:=[.tmp 2 false],body:=
 (.seq (.g [.o 1 (.iA 0 6) [.T 0],.m 2 (.b false)] [2]) (.seq (.g [.f 3 0 (.t 1),
 .l 4 0 (.t 3),.o 5 (.aJ .eql) [.t 4,.const (.str [109,97,105,110])],.m 6 (.t 5),.y 7 (.fieldAddr 1) [.t 1] 6,
 .y 8 (.aL 0 false 1 false) [.t 7] 6,.y 9 (.len .sl) [.T 8] 6,.y 10 (.aJ .eql) [.t 9,.i 0] 6,
 .o 11 .pick [.t 6,.t 10,.b false],.m 12 (.t 11),.y 13 (.fieldAddr 2) [.t 1] 12,.y 14 (.aL 0 false 1 false) [.t 13] 12,
 .y 15 (.un .not) [.t 14] 12,.o 16 .pick [.t 12,.t 15,.b false],.m 2 (.t 16)] [1,3,4,5,6,7,8,9,10,11,12,13,14,15,16]) .ret)) }
def s73:aD:={ eZ:=73,mode:=.mR,aE:=2,aM:=0,di:=[],results:=[],body:=
 (.seq (.g [.m 4 (.t 0),.o 5 .nilCheck [.t 4],.f 6 1 (.T 5),.f 7 0 (.T 6),.d 8 (.T 7),
 .o 9 (.aJ .eql) [.t 8,.i 0]] [4,8]) (.cond (.T 9) [] (.g [.m 10 (.t 0),.m 11 (.t 1),
 .o 12 (.build [.i 0,.i 0] [(0,1),(1,1)]) [.i 3,.t 11],.o 13 .nilCheck [.t 10],.f 14 1 (.T 13),
 .n (.store 2) [.T 14,.t 12]] [0,1,10,11,12]) [0,1] .skip)) }
def s74:aD:={ eZ:=74,mode:=.pure,aE:=1,aM:=0,di:=[],results:=[.tmp 2 true],body:=
 (.seq (.g [.o 2 .move [.const .U]] [2]) (.seq (.seq (.g [.m 3 (.t 0),.o 4 (.BH .sl false) [.T 3,.const .U]] [])
 (.cond (.T 4) [0] (.seq (.g [.o 2 .move [.const .U]] []) .ret) [] .skip)) (.seq (.g [
 .o 5 (.lit 4 0 [.str [],.i 0,.i 0,.i 0] []) [],.m 6 (.T 0),.o 7 (.append 4 40) [.T 5,.T 6],.m 2 (.T 7)] []) .ret))) }
def El:bE:=
 (.seq (.g [.o 11 (.aJ .lss) [.t 10,.t 9]] []) (.seq (.cond (.T 11) [] .skip [0,8,9,10] (.exit 0)) (.seq (.block 1 (.seq (.g [
 .o 12 (.indexAddr 9) [.t 8,.t 10],.o 13 (.load true 9 false) [.T 12],
 .o 7 (.aN 0 [.i 0,.str [],.str [],.i 0,.U,.U,.U,.i 0,.i 0]) [],.n (.aj 0 9) [.t 7,.T 13]] []) (.seq
 (.seq (.g [.m 14 (.t 0),.c 15 46 [.t 14]] [14]) (.cond (.T 15) [0,5,7,8,9,10] (.seq (.g [.o 4 .move [.const .U]] [])
 .ret) [] .skip)) (.g [.m 16 (.T 5),.m 17 (.t 0),.o 18 (.aL 0 true 9 false) [.t 7],.c 19 95 [.t 17,.T 18],
 .o 20 (.lit 9 1 [.i 0,.str [],.str [],.i 0,.U,.U,.U,.i 0,.i 0] [0]) [.T 19],.o 21 (.append 9 136) [.T 16,.T 20],
 .m 5 (.T 21)] [7,17])))) (.g [.o 22 (.aJ .add) [.t 10,.i 1],.m 10 (.t 22)] [22]))))
def s75:aD:={ eZ:=75,mode:=.mR,aE:=2,aM:=1,di:=[],results:=[.tmp 4 true],body:=
 (.seq (.g [.o 4 .move [.const .U]] [4]) (.seq (.g [.o 5 .move [.const .U]] []) (.seq (.seq (.g [.m 8 (.T 1),
 .o 9 (.len .sl) [.t 8],.m 10 (.i 0)] []) (.block 0 (.loop El))) (.seq (.g [.m 23 (.T 5),
 .m 4 (.T 23)] []) .ret)))) }
def s76:aD:={ eZ:=76,mode:=.CN,aE:=1,aM:=0,di:=[],results:=[.tmp 2 true],body:=
 (.seq (.g [.o 2 .move [.const .U]] [2]) (.seq (.seq (.g [.m 3 (.t 0),.o 4 (.NX false) [.T 3,.const .U]] [])
 (.cond (.T 4) [0] (.seq (.g [.o 2 .move [.const .U]] []) .ret) [] .skip)) (.seq (.g [.o 5 (.lit 1 0 [.bool false] []) [],
 .m 6 (.T 0),.o 7 (.kh 1 1) [.T 5,.T 6],.m 2 (.T 7)] []) .ret))) }
def Nd:bE:=
 (.seq (.g [.o 17 (.aJ .lss) [.t 16,.t 15]] []) (.seq (.cond (.T 17) [] .skip [14,15,16] (.exit 0)) (.seq (.block 1 (.seq (.g [
 .o 18 (.indexAddr 11) [.t 14,.t 16],.o 19 (.load true 11 false) [.T 18],
 .o 8 (.aN 1 [.i 0,.i 0,.str [],.str [],.i 0,.U,.i 0,.i 0,.i 0,.i 0,.i 0]) [],
 .n (.aj 1 11) [.t 8,.T 19]] []) (.g [.m 20 (.t 0),.o 21 (.aL 1 true 11 false) [.t 8],.m 22 (.t 2),
 .c 23 96 [.t 20,.T 21,.T 22]] [8,20,23]))) (.g [.o 24 (.aJ .add) [.t 16,.i 1],.m 16 (.t 24)] [24]))))
def Un:bE:=
 (.seq (.g [.o 48 (.aJ .lss) [.t 47,.t 46]] []) (.seq (.cond (.T 48) [] .skip [46,47] (.exit 3)) (.seq (.block 4 (.seq (.g [
 .m 49 (.t 47),.m 9 (.t 49)] [49]) (.g [.m 50 (.t 2),.m 51 (.t 9),.o 52 (.indexAddr 1) [.T 50,.t 51],
 .n (.store 1) [.T 52,.b true]] [9,51]))) (.g [.o 53 (.aJ .add) [.t 47,.i 1],.m 47 (.t 53)] [53]))))
def Uo:bE:=
 (.seq (.g [.o 76 (.aJ .lss) [.t 75,.t 74]] []) (.seq (.cond (.T 76) [] .skip [10,11,74,75] (.exit 5)) (.seq (.block 6 (.seq (.g [
 .m 77 (.t 75),.m 12 (.t 77)] [77]) (.g [.m 78 (.t 2),.m 79 (.t 12),.m 80 (.t 10),.m 81 (.t 12),
 .o 82 (.indexAddr 1) [.T 80,.t 81],.d 83 (.T 82),.m 84 (.t 83),.y 85 .move [.t 11] 84,.y 86 .move [.t 12] 84,
 .y 87 (.indexAddr 1) [.T 85,.t 86] 84,.y 88 (.load false 1 false) [.T 87] 84,.o 89 .pick [.t 84,.t 88,.b false],
 .o 90 (.indexAddr 1) [.T 78,.t 79],.n (.store 1) [.T 90,.t 89]] [12,79,81,83,84,85,86,87,88,89]))) (.g [
 .o 91 (.aJ .add) [.t 75,.i 1],.m 75 (.t 91)] [91]))))
def KU:aD:={ eZ:=77,mode:=.CN,aE:=3,aM:=2,di:=[],results:=[.tmp 6 true],body:=
 (.seq (.g [.o 4 (.iA 0 9) [.T 1],.o 6 .move [.const .U]] [6]) (.seq (.seq (.g [.f 13 4 (.t 4),
 .l 14 0 (.t 13),.o 15 (.len .sl) [.t 14],.m 16 (.i 0)] [13]) (.block 0 (.loop Nd))) (.seq (.seq
 (.g [.f 25 0 (.t 4),.l 26 0 (.t 25)] [25]) (.block 2 (.seq (.g [
 .o 28 (.aJ .eql) [.t 26,.i 1],.m 27 (.t 28)] [28]) (.cond (.T 27) [0,26] (.g [.m 29 (.t 2),
 .f 30 8 (.t 4),.l 31 0 (.t 30),.o 32 (.indexAddr 1) [.T 29,.t 31],
 .n (.store 1) [.T 32,.b false]] [4,30,31]) [] (.seq (.seq (.g [.o 34 (.aJ .eql) [.t 26,.i 2],
 .m 33 (.t 34)] [34]) (.cond (.t 33) [] .skip [33] (.g [.o 35 (.aJ .eql) [.t 26,.i 3],.m 33 (.t 35)] [35])))
 (.cond (.T 33) [0,26] (.seq (.g [.f 36 8 (.t 4),.l 37 0 (.t 36),
 .o 38 (.aJ .geq) [.t 37,.i 0]] [36,37]) (.cond (.T 38) [] (.g [.m 39 (.t 2),.f 40 8 (.t 4),
 .l 41 0 (.t 40),.o 42 (.indexAddr 1) [.T 39,.t 41],.n (.store 1) [.T 42,.b true]] [4,40,41]) [4] .skip)) [] (.seq
 (.g [.o 44 (.aJ .eql) [.t 26,.i 7],.m 43 (.t 44)] [44]) (.cond (.T 43) [0,4,26] (.seq (.g [.m 45 (.t 2),
 .o 46 (.len .sl) [.T 45],.m 47 (.i 0)] []) (.block 3 (.loop Un))) [] (.seq (.g [
 .o 55 (.aJ .eql) [.t 26,.i 6],.m 54 (.t 55)] [55]) (.cond (.T 54) [26] (.g [.m 56 (.t 0),
 .f 57 5 (.t 4),.l 58 0 (.t 57),.m 59 (.t 2),.c 60 47 [.t 56,.T 58,.T 59]] [0,4,56,57,60]) [] (.seq
 (.g [.o 62 (.aJ .eql) [.t 26,.i 5],.m 61 (.t 62)] [26,62]) (.cond (.T 61) [] (.seq (.r [.m 63 (.t 0),
 .f 64 5 (.t 4),.l 65 0 (.t 64),.m 66 (.t 2),.c 67 47 [.t 63,.T 65,.T 66],.m 68 (.t 0),
 .f 69 6 (.t 4),.l 70 0 (.t 69),.m 71 (.t 2),.c 72 47 [.t 68,.T 70,.T 71],.m 10 (.T 67),
 .m 11 (.T 72)] (some []) [0,4,63,64,68,69]) (.seq (.g [.m 73 (.t 2),.o 74 (.len .sl) [.T 73],.m 75 (.i 0)] [])
 (.block 5 (.loop Uo)))) [0,4] .skip)))))))))))) (.seq (.g [.m 92 (.T 2),.m 6 (.T 92)] []) .ret)))) }
def QX:aD:={ eZ:=78,mode:=.CN,aE:=3,aM:=1,di:=[],results:=[],body:=
 (.seq (.g [.o 5 (.iA 0 9) [.T 2]] []) (.seq (.seq (.g [.f 8 0 (.t 5),.l 9 0 (.t 8)] [8])
 (.block 0 (.seq (.g [.o 11 (.aJ .eql) [.t 9,.i 1],.m 10 (.t 11)] [11]) (.cond (.T 10) [0,1,5,9] .ret [] (.seq (.g [
 .o 13 (.aJ .eql) [.t 9,.i 6],.m 12 (.t 13)] [9,13]) (.cond (.T 12) [] (.seq (.g [.m 14 (.t 0),.m 15 (.t 1),
 .o 16 (.aL 0 true 9 false) [.t 5],.c 17 97 [.t 14,.t 15,.T 16]] [0,1,5,14,15,17]) .ret) [] .skip)))))) (.seq (.seq (.g [
 .m 18 (.t 0),.c 19 98 [.t 18],.o 20 (.un .not) [.t 19]] [18,19]) (.cond (.T 20) [0,1,5] .ret [] .skip)) (.seq (.seq (.g [
 .f 21 0 (.t 5),.l 22 0 (.t 21),.o 23 (.aJ .eql) [.t 22,.i 4]] [21,22]) (.cond (.T 23) [] (.seq
 (.g [.m 24 (.t 0),.m 25 (.t 1),.o 26 (.aL 0 true 9 false) [.t 5],.c 27 99 [.t 24,.t 25,.T 26]] [0,1,5,24,25,27]) .ret) []
 .skip)) (.seq (.g [.m 29 (.t 0),.m 30 (.t 1),.f 31 4 (.t 5),.l 32 0 (.t 31),
 .c 33 100 [.t 29,.t 30,.T 32],.m 28 (.T 33),.o 34 (.extract 0) [.t 28],.o 35 (.extract 1) [.T 28],.m 6 (.T 34),
 .m 7 (.t 35)] [29,30,31,35]) (.seq (.seq (.g [.m 36 (.t 7),.o 37 (.un .not) [.t 36]] [7,36]) (.cond (.T 37) [0,1,5,6] .ret []
 .skip)) (.seq (.g [.f 38 0 (.t 5),.l 39 0 (.t 38)] [38]) (.block 1 (.seq (.seq (.g [
 .o 41 (.aJ .eql) [.t 39,.i 2],.m 40 (.t 41)] [41]) (.cond (.t 40) [] .skip [40] (.g [
 .o 42 (.aJ .eql) [.t 39,.i 3],.m 40 (.t 42)] [42]))) (.cond (.T 40) [39] (.r [.m 43 (.t 0),.m 44 (.t 1),
 .f 45 8 (.t 5),.l 46 0 (.t 45),.c 47 101 [.t 43,.t 44,.t 46],.m 48 (.T 6),
 .o 49 (.indexAddr 1) [.T 48,.i 0],.d 50 (.T 49),.o 51 .nilCheck [.t 47],
 .n (.store 1) [.T 51,.t 50]] (some [(6,4),(7,4)]) [0,1,5,43,44,45,46,47,50]) [] (.seq (.g [.o 53 (.aJ .eql) [.t 39,.i 5],
 .m 52 (.t 53)] [53]) (.cond (.T 52) [39] (.seq (.seq (.g [.m 54 (.T 6),.o 55 (.indexAddr 1) [.T 54,.i 0],
 .d 56 (.T 55),.o 57 (.aJ .neq) [.t 56,.i 0]] [56]) (.cond (.T 57) [] (.seq (.g [.m 58 (.t 0),
 .m 59 (.t 1),.f 60 5 (.t 5),.l 61 0 (.t 60),.c 62 49 [.t 58,.t 59,.T 61]] [0,1,5,58,59,60,62])
 .ret) [] .skip)) (.g [.m 63 (.t 0),.m 64 (.t 1),.f 65 6 (.t 5),.l 66 0 (.t 65),
 .c 67 49 [.t 63,.t 64,.T 66]] [0,1,5,63,64,65,67])) [5] (.seq (.g [.o 69 (.aJ .eql) [.t 39,.i 7],
 .m 68 (.t 69)] [69]) (.cond (.T 68) [0,39] (.seq (.g [.m 70 (.t 1),.o 71 .nilCheck [.t 70],.f 72 2 (.T 71),
 .n (.store 1) [.T 72,.b true]] [70]) (.seq (.g [.m 73 (.t 6),.o 74 (.len .sl) [.T 73],
 .o 75 (.aJ .gtr) [.t 74,.i 0]] [74]) (.cond (.T 75) [] (.g [.m 76 (.t 1),.m 77 (.T 6),
 .o 78 (.indexAddr 1) [.T 77,.i 0],.d 79 (.T 78),.o 80 .nilCheck [.t 76],.f 81 1 (.T 80),
 .n (.store 1) [.T 81,.t 79]] [1,76,79]) [1,6] .skip))) [1] (.seq (.g [.o 83 (.aJ .eql) [.t 39,.i 8],
 .m 82 (.t 83)] [39,83]) (.cond (.T 82) [] (.r [.m 84 (.t 0),.m 85 (.t 0),.o 86 .nilCheck [.t 85],
 .f 87 10 (.T 86),.f 88 2 (.T 87),.d 89 (.T 88),.m 90 (.T 6),
 .o 91 (.indexAddr 1) [.T 90,.i 0],.d 92 (.T 91),.o 93 (.lit 1 1 [.i 0] [0]) [.t 92],
 .o 94 (.kh 1 8) [.T 89,.T 93],.o 95 .nilCheck [.t 84],.f 96 10 (.T 95),.f 97 2 (.T 96),
 .n (.store 1) [.T 97,.T 94]] (some []) [0,84,85,92]) [0,6] .skip)))))))))))))))) }
def Up:bE:=
 (.seq (.seq (.g [.m 9 (.t 4),.o 10 (.aJ .neq) [.t 9,.i 0]] [9]) (.cond (.T 10) [] .skip [4] (.exit 0))) (.seq (.block 1
 (.seq (.g [.m 13 (.t 4),.o 14 (.aJ .rem) [.t 13,.i 10],.m 5 (.t 14)] [13,14]) (.seq (.seq (.g [
 .m 15 (.t 5),.o 16 (.aJ .lss) [.t 15,.i 0]] [15]) (.cond (.T 16) [] (.g [.m 17 (.t 5),
 .o 18 (.aJ .sub) [.i 0,.t 17],.m 5 (.t 18)] [17,18]) [] .skip)) (.g [.m 19 (.t 5),
 .o 20 (.aJ .add) [.i 48,.t 19],.o 21 (.conv .u8) [.t 20],.o 22 (.lit 1 1 [.int .u8 0] [0]) [.t 21],.o 23 .NY [.T 22],
 .m 24 (.t 3),.o 25 (.aJ .add) [.t 23,.t 24],.m 3 (.t 25)] [5,19,20,21,23,24,25])))) (.g [.m 11 (.t 4),
 .o 12 (.aJ .quo) [.t 11,.i 10],.m 4 (.t 12)] [11,12])))
def s86:aD:={ eZ:=86,mode:=.pure,aE:=1,aM:=0,di:=[],results:=[.tmp 2 false],body:=
 (.seq (.g [.o 2 .move [.const (.str [])]] [2]) (.seq (.seq (.g [.m 6 (.t 0),.o 7 (.aJ .eql) [.t 6,.i 0]] [6])
 (.cond (.T 7) [0] (.seq (.g [.o 2 .move [.const (.str [48])]] []) .ret) [] .skip)) (.seq (.g [.o 3 .move [.const (.str [])]] []) (.seq
 (.seq (.g [.m 8 (.t 0),.m 4 (.t 8)] [8]) (.block 0 (.loop Up))) (.seq (.seq (.g [.m 26 (.t 0),
 .o 27 (.aJ .lss) [.t 26,.i 0]] [0,26]) (.cond (.T 27) [] (.seq (.g [.m 28 (.t 3),
 .o 29 (.aJ .add) [.const (.str [45]),.t 28],.m 2 (.t 29)] [3,28,29]) .ret) [] .skip)) (.seq (.g [.m 30 (.t 3),
 .m 2 (.t 30)] [3,30]) .ret)))))) }
def s87:aD:={ eZ:=87,mode:=.pure,aE:=2,aM:=1,di:=[],results:=[.tmp 4 false],body:=
 (.seq (.g [.o 2 (.iA 0 11) [.T 0],.o 4 .move [.const (.str [])]] [4]) (.seq (.seq (.g [.o 5 (.aL 0 true 11 false) [.t 2],
 .c 6 88 [.T 5],.m 7 (.t 1),.o 8 (.aJ .lss) [.t 6,.t 7]] [1,6,7]) (.cond (.T 8) [] (.seq (.g [.o 9 (.aL 0 true 11 false) [.t 2],
 .c 10 57 [.T 9],.o 11 (.aJ .add) [.const (.str [40]),.t 10],.o 12 (.aJ .add) [.t 11,.const (.str [41])],.m 4 (.t 12)] [2,10,11,12])
 .ret) [] .skip)) (.seq (.g [.o 13 (.aL 0 true 11 false) [.t 2],.c 14 57 [.T 13],.m 4 (.t 14)] [2,14]) .ret))) }
def s88:aD:={ eZ:=88,mode:=.pure,aE:=1,aM:=1,di:=[],results:=[.tmp 2 false],body:=
 (.seq (.g [.o 1 (.iA 0 11) [.T 0],.m 2 (.i 0)] [2]) (.seq (.seq (.g [.f 3 0 (.t 1),
 .l 4 0 (.t 3)] [1,3]) (.block 0 (.seq (.g [.o 6 (.aJ .eql) [.t 4,.i 24],.m 5 (.t 6)] [6])
 (.cond (.T 5) [4] (.seq (.g [.m 2 (.i 1)] []) .ret) [] (.seq (.g [.o 8 (.aJ .eql) [.t 4,.i 23],
 .m 7 (.t 8)] [8]) (.cond (.T 7) [4] (.seq (.g [.m 2 (.i 2)] []) .ret) [] (.seq (.seq (.g [
 .o 10 (.aJ .eql) [.t 4,.i 19],.m 9 (.t 10)] [10]) (.cond (.t 9) [] .skip [9] (.seq (.g [
 .o 11 (.aJ .eql) [.t 4,.i 20],.m 9 (.t 11)] [11]) (.cond (.t 9) [] .skip [9] (.seq (.g [
 .o 12 (.aJ .eql) [.t 4,.i 21],.m 9 (.t 12)] [12]) (.cond (.t 9) [] .skip [9] (.g [
 .o 13 (.aJ .eql) [.t 4,.i 22],.m 9 (.t 13)] [13]))))))) (.cond (.T 9) [4] (.seq (.g [
 .m 2 (.i 3)] []) .ret) [] (.seq (.seq (.g [.o 15 (.aJ .eql) [.t 4,.i 14],.m 14 (.t 15)] [15])
 (.cond (.t 14) [] .skip [14] (.g [.o 16 (.aJ .eql) [.t 4,.i 15],.m 14 (.t 16)] [16]))) (.cond (.T 14) [4] (.seq (.g [
 .m 2 (.i 4)] []) .ret) [] (.seq (.seq (.g [.o 18 (.aJ .eql) [.t 4,.i 16],.m 17 (.t 18)] [18])
 (.cond (.t 17) [] .skip [17] (.seq (.g [.o 19 (.aJ .eql) [.t 4,.i 17],.m 17 (.t 19)] [19]) (.cond (.t 17) [] .skip [17]
 (.g [.o 20 (.aJ .eql) [.t 4,.i 18],.m 17 (.t 20)] [20]))))) (.cond (.T 17) [4] (.seq (.g [
 .m 2 (.i 5)] []) .ret) [] (.seq (.seq (.g [.o 22 (.aJ .eql) [.t 4,.i 12],.m 21 (.t 22)] [22])
 (.cond (.t 21) [4] .skip [21] (.g [.o 23 (.aJ .eql) [.t 4,.i 13],.m 21 (.t 23)] [4,23]))) (.cond (.T 21) [] (.seq
 (.g [.m 2 (.i 6)] []) .ret) [] .skip)))))))))))))) (.seq (.g [.m 2 (.i 7)] []) .ret))) }
def s89:aD:={ eZ:=89,mode:=.pure,aE:=1,aM:=0,di:=[],results:=[.tmp 2 false],body:=
 (.seq (.g [.o 2 .move [.const (.str [])]] [2]) (.seq (.g [
 .o 4 (.lit 1 11 [.str []] [0,1,2,3,4,5,6,7,8,9,10]) [.const (.str [43]),.const (.str [45]),.const (.str [42]),.const (.str [47]),.const (.str [37]),.const (.str [60]),.const (.str [60,61]),.const (.str [61,61]),.const (.str [33,61]),.const (.str [38,38]),.const (.str [124,124])],
 .m 3 (.T 4)] []) (.seq (.g [.m 5 (.T 3),.m 6 (.t 0),.o 7 (.aJ .sub) [.t 6,.i 14],
 .o 8 (.indexAddr 1) [.T 5,.t 7],.d 9 (.T 8),.m 2 (.t 9)] [0,6,7,9]) .ret))) }
def s90:aD:={ eZ:=90,mode:=.pure,aE:=0,aM:=0,di:=[],results:=[.tmp 0 true],body:=
 (.seq (.g [.o 0 .move [.const .U]] [0]) (.seq (.g [
 .o 1 (.lit 1 18 [.str []] [0,1,2,3,4,5,6,7,8,9,10,11,12,13,14,15,16,17]) [.const (.str [114,101,99,111,114,100]),.const (.str [103,108,111,98,97,108]),.const (.str [102,117,110,99]),.const (.str [118,97,114]),.const (.str [108,101,116]),.const (.str [105,102]),.const (.str [101,108,115,101]),.const (.str [119,104,105,108,101]),.const (.str [114,101,116,117,114,110]),.const (.str [112,114,105,110,116]),.const (.str [110,117,108,108]),.const (.str [110,101,119]),.const (.str [108,101,110]),.const (.str [114,101,97,100]),.const (.str [116,114,117,101]),.const (.str [102,97,108,115,101]),.const (.str [105,110,116]),.const (.str [98,111,111,108])],
 .m 0 (.T 1)] []) .ret)) }
def Uq:bE:=
 (.seq (.seq (.g [.m 16 (.t 0),.c 17 19 [.t 16],.m 18 (.t 17),.y 19 .move [.t 1] 18,.y 20 .move [.t 0] 18,
 .y 21 (.call 20) [.t 20] 18,.y 22 (.call 114) [.t 19,.t 21] 18,.y 23 (.aJ .neq) [.t 22,.i 0] 18,
 .o 24 .pick [.t 18,.t 23,.b false]] [16,17,18,19,20,21,22,23]) (.cond (.T 24) [] .skip [0,1] (.exit 0))) (.block 1 (.seq (.g [
 .m 25 (.t 0),.c 26 20 [.t 25],.o 6 (.aN 2 [.i 0,.str [],.i 0,.i 0]) [],.n (.aj 2 4) [.t 6,.t 26]] [25,26])
 (.seq (.g [.m 27 (.t 0),.o 28 .nilCheck [.t 27],.f 29 1 (.T 28),.d 30 (.T 29),
 .o 31 (.aJ .add) [.t 30,.i 1],.o 32 .nilCheck [.t 27],.f 33 1 (.T 32),.n (.store 1) [.T 33,.t 31]] [27,30,31]) (.seq
 (.g [.m 34 (.t 0),.m 35 (.t 1),.o 36 (.aJ .add) [.t 35,.i 1],.c 37 91 [.t 34,.t 36],
 .o 7 (.aN 3 [.i 0,.i 0,.str [],.str [],.i 0,.U,.i 0,.i 0,.i 0,.i 0,.i 0]) [],
 .n (.aj 3 11) [.t 7,.T 37]] [34,35,36]) (.r [.m 38 (.t 1),.o 39 (.aL 2 true 4 false) [.t 6],.c 40 114 [.t 38,.t 39],
 .o 41 (.aL 1 true 11 false) [.t 5],.o 42 (.aL 3 true 11 false) [.t 7],
 .o 43 (.lit 11 2 [.i 0,.i 0,.str [],.str [],.i 0,.U,.i 0,.i 0,.i 0,.i 0,.i 0] [0,1]) [.T 41,.T 42],
 .f 44 3 (.t 6),.l 45 2 (.t 44),
 .o 46 (.build [.i 0,.i 0,.str [],.str [],.i 0,.U,.i 0,.i 0,.i 0,.i 0,.i 0] [(0,1),(5,1),(6,1)]) [.t 40,.T 43,.t 45],
 .n (.aj 1 11) [.t 5,.T 46]] (some []) [6,7,38,39,40,44,45]))))))
def s91:aD:={ eZ:=91,mode:=.mR,aE:=2,aM:=4,di:=[],results:=[.box 4 0 11 true],body:=
 (.seq (.g [
 .o 4 (.aN 0 [.i 0,.i 0,.str [],.str [],.i 0,.U,.i 0,.i 0,.i 0,.i 0,.i 0]) []] []) (.seq
 (.seq (.g [.m 8 (.t 1),.o 9 (.aJ .eql) [.t 8,.i 5]] [8]) (.cond (.T 9) [1] (.seq (.g [.m 10 (.t 0),
 .c 11 113 [.t 10],.n (.aj 0 11) [.t 4,.T 11]] [0,10]) .ret) [] .skip)) (.seq (.g [.m 12 (.t 0),.m 13 (.t 1),
 .o 14 (.aJ .add) [.t 13,.i 1],.c 15 91 [.t 12,.t 14],
 .o 5 (.aN 1 [.i 0,.i 0,.str [],.str [],.i 0,.U,.i 0,.i 0,.i 0,.i 0,.i 0]) [],
 .n (.aj 1 11) [.t 5,.T 15]] [12,13,14]) (.seq (.block 0 (.loop Uq)) (.seq (.g [.o 47 (.aL 1 true 11 false) [.t 5],
 .n (.aj 0 11) [.t 4,.T 47]] [5]) .ret))))) }
def s92:aD:={ eZ:=92,mode:=.mR,aE:=2,aM:=4,di:=[],results:=[.box 4 1 9 true],body:=
 (.seq (.g [.o 3 (.iA 0 9) [.T 1],.o 4 (.aN 1 [.i 0,.str [],.str [],.i 0,.U,.U,.U,.i 0,.i 0]) []] [])
 (.seq (.g [.m 7 (.t 0),.c 8 91 [.t 7,.i 0],
 .o 5 (.aN 2 [.i 0,.i 0,.str [],.str [],.i 0,.U,.i 0,.i 0,.i 0,.i 0,.i 0]) [],
 .n (.aj 2 11) [.t 5,.T 8]] [7]) (.seq (.seq (.g [.m 9 (.t 0),.c 10 21 [.t 9,.const (.str [61])],
 .o 11 (.un .not) [.t 10]] [9,10]) (.cond (.T 11) [] (.seq (.g [.f 12 0 (.t 3),
 .n (.aj 0 1) [.t 12,.i 9]] [12]) (.seq (.g [.o 13 (.aL 2 true 11 false) [.t 5],
 .o 14 (.lit 11 1 [.i 0,.i 0,.str [],.str [],.i 0,.U,.i 0,.i 0,.i 0,.i 0,.i 0] [0]) [.T 13],
 .f 15 4 (.t 3),.n (.aj 0 1) [.t 15,.T 14]] [15]) (.seq (.seq (.g [.m 16 (.t 0),
 .c 17 21 [.t 16,.const (.str [59])],.m 18 (.t 17),.y 19 (.fieldAddr 0) [.t 5] 18,.y 20 (.aL 2 false 1 false) [.t 19] 18,
 .y 21 (.aJ .neq) [.t 20,.i 7] 18,.o 22 .pick [.t 18,.t 21,.b false]] [5,16,17,18,19,20,21]) (.cond (.T 22) [] (.g [
 .m 23 (.t 0),.c 24 22 [.t 23,.i 2]] [23,24]) [] .skip)) (.seq (.g [.m 25 (.t 0),
 .c 26 25 [.t 25,.const (.str [59])]] [0,25,26]) (.seq (.g [.o 27 (.aL 0 true 9 false) [.t 3],.n (.aj 1 9) [.t 4,.T 27]] [3])
 .ret))))) [] .skip)) (.seq (.seq (.g [.f 28 0 (.t 5),.l 29 2 (.t 28),
 .o 30 (.aJ .neq) [.t 29,.i 4],.m 31 (.t 30),.y 32 (.fieldAddr 0) [.t 5] 31,.y 33 (.aL 2 false 1 false) [.t 32] 31,
 .y 34 (.aJ .neq) [.t 33,.i 5] 31,.o 35 .pick [.t 31,.t 34,.b false],.m 36 (.t 35),.y 37 (.fieldAddr 0) [.t 5] 36,
 .y 38 (.aL 2 false 1 false) [.t 37] 36,.y 39 (.aJ .neq) [.t 38,.i 6] 36,
 .o 40 .pick [.t 36,.t 39,.b false]] [28,29,30,31,32,33,34,35,36,37,38,39]) (.cond (.T 40) [] (.g [.m 41 (.t 0),
 .c 42 22 [.t 41,.i 2]] [41,42]) [] .skip)) (.seq (.g [.m 43 (.t 0),
 .c 44 25 [.t 43,.const (.str [61])]] [43,44]) (.seq (.g [.m 45 (.t 0),.c 46 91 [.t 45,.i 0],
 .o 6 (.aN 3 [.i 0,.i 0,.str [],.str [],.i 0,.U,.i 0,.i 0,.i 0,.i 0,.i 0]) [],
 .n (.aj 3 11) [.t 6,.T 46]] [45]) (.seq (.g [.m 47 (.t 0),.c 48 25 [.t 47,.const (.str [59])]] [0,47,48]) (.seq (.seq
 (.g [.f 49 0 (.t 5),.l 50 2 (.t 49),.o 51 (.aJ .eql) [.t 50,.i 4]] [49,50])
 (.cond (.T 51) [] (.seq (.g [.f 52 0 (.t 3),.n (.aj 0 1) [.t 52,.i 3]] [52]) (.seq (.g [
 .f 53 2 (.t 5),.l 54 2 (.t 53),.f 55 1 (.t 3),.n (.aj 0 1) [.t 55,.t 54]] [5,53,54,55]) (.seq
 (.g [.o 56 (.aL 3 true 11 false) [.t 6],
 .o 57 (.lit 11 1 [.i 0,.i 0,.str [],.str [],.i 0,.U,.i 0,.i 0,.i 0,.i 0,.i 0] [0]) [.T 56],
 .f 58 4 (.t 3),.n (.aj 0 1) [.t 58,.T 57]] [6,58]) (.seq (.g [.o 59 (.aL 0 true 9 false) [.t 3],
 .n (.aj 1 9) [.t 4,.T 59]] [3]) .ret)))) [] .skip)) (.seq (.g [.f 60 0 (.t 3),
 .n (.aj 0 1) [.t 60,.i 4]] [60]) (.seq (.g [.o 61 (.aL 2 true 11 false) [.t 5],.o 62 (.aL 3 true 11 false) [.t 6],
 .o 63 (.lit 11 2 [.i 0,.i 0,.str [],.str [],.i 0,.U,.i 0,.i 0,.i 0,.i 0,.i 0] [0,1]) [.T 61,.T 62],
 .f 64 4 (.t 3),.n (.aj 0 1) [.t 64,.T 63]] [5,6,64]) (.seq (.g [.o 65 (.aL 0 true 9 false) [.t 3],
 .n (.aj 1 9) [.t 4,.T 65]] [3]) .ret))))))))))) }
def s93:aD:={ eZ:=93,mode:=.pure,aE:=2,aM:=0,di:=[],results:=[.tmp 4 false],body:=
 (.seq (.g [.m 4 (.b false)] [4]) (.seq (.g [.m 5 (.T 0),.m 6 (.t 1),.c 7 115 [.T 5,.t 6],
 .o 8 (.aJ .geq) [.t 7,.i 0],.m 4 (.t 8)] [1,6,7,8]) .ret)) }
def s94:aD:={ eZ:=94,mode:=.mR,aE:=3,aM:=3,di:=[],results:=[.box 6 1 3 true],body:=
 (.seq (.g [.o 4 (.iA 0 2) [.t 1],.o 6 (.aN 1 [.i 0,.i 0,.i 0]) []] [1]) (.seq (.r [.m 10 (.t 0),
 .o 11 .nilCheck [.t 10],.f 12 0 (.T 11),.d 13 (.T 12),.o 14 (.aL 0 true 2 false) [.t 4],
 .c 15 116 [.T 13,.t 14],.m 9 (.T 15),.o 16 (.extract 0) [.t 9],.o 17 (.extract 1) [.t 9],
 .o 7 (.aN 2 [.i 0,.i 0,.i 0]) [],.n (.aj 2 3) [.t 7,.t 16],.m 8 (.t 17)] (some []) [4,9,10,14,16,17]) (.seq (.seq
 (.g [.m 18 (.t 8),.o 19 (.un .not) [.t 18]] [8,18]) (.cond (.T 19) [] (.g [.m 20 (.t 0),.m 21 (.t 2),
 .c 22 73 [.t 20,.t 21]] [0,2,20,21,22]) [0,2] .skip)) (.seq (.g [.o 23 (.aL 2 true 3 false) [.t 7],
 .n (.aj 1 3) [.t 6,.t 23]] [7,23]) .ret)))) }
def mA:aD:={ eZ:=95,mode:=.mR,aE:=2,aM:=4,di:=[],results:=[.box 4 1 9 true],body:=
 (.seq (.g [.o 3 (.iA 0 9) [.T 1],.o 4 (.aN 1 [.i 0,.str [],.str [],.i 0,.U,.U,.U,.i 0,.i 0]) []] [])
 (.seq (.g [.f 8 0 (.t 3),.l 9 0 (.t 8),.f 10 7 (.t 3),.l 11 0 (.t 10),
 .o 12 (.build [.i 0,.str [],.str [],.i 0,.U,.U,.U,.i 0,.i 0] [(0,1),(7,1)]) [.t 9,.t 11],
 .o 5 (.aN 2 [.i 0,.str [],.str [],.i 0,.U,.U,.U,.i 0,.i 0]) [],.n (.aj 2 9) [.t 5,.T 12]] [8,9,10,11])
 (.seq (.r [.c 13 117 [],.m 14 (.t 0),.o 15 (.aL 0 true 9 false) [.t 3],.c 16 118 [.t 14,.T 15],
 .o 6 (.aN 3 [.i 0,.i 0,.i 0]) [],.n (.aj 3 3) [.t 6,.t 13],.m 7 (.t 16)] (some []) [13,14,16]) (.seq (.seq (.g [
 .m 17 (.t 7),.m 18 (.t 17),.y 19 (.fieldAddr 0) [.t 3] 18,.y 20 (.aL 0 false 1 false) [.t 19] 18,
 .y 21 (.aJ .eql) [.t 20,.i 1] 18,.y 22 .move [.t 21] 18,.z 23 (.fieldAddr 0) [.t 3] 22,.z 24 (.aL 0 false 1 false) [.t 23] 22,
 .z 25 (.aJ .eql) [.t 24,.i 2] 22,.y 26 .pick [.t 22,.b true,.t 25] 18,
 .o 27 .pick [.t 18,.t 26,.b false]] [17,18,19,20,21,22,23,24,25,26]) (.cond (.T 27) [7] (.seq (.r [.m 29 (.t 0),
 .o 30 .nilCheck [.t 29],.f 31 4 (.T 30),.d 32 (.T 31),.f 33 2 (.t 3),
 .o 34 (.aL 0 true 2 false) [.t 33],.c 35 116 [.T 32,.t 34],.m 28 (.T 35),.o 36 (.extract 0) [.t 28],.o 37 (.extract 1) [.t 28],
 .n (.aj 3 3) [.t 6,.t 36],.m 7 (.t 37)] (some []) [28,29,33,34,36,37]) (.g [.f 38 2 (.t 3),
 .o 39 (.aL 0 true 2 false) [.t 38],.f 40 2 (.t 5),.n (.aj 2 2) [.t 40,.t 39]] [38,39,40])) [] .skip)) (.seq (.seq (.g [
 .m 41 (.t 7),.o 42 (.un .not) [.t 41]] [7,41]) (.cond (.T 42) [5,6] (.seq (.g [.m 43 (.t 0),.f 44 7 (.t 3),
 .l 45 0 (.t 44),.c 46 119 [.t 43,.t 45]] [0,3,43,44,45,46]) (.seq (.g [
 .o 47 (.build [.i 0,.str [],.str [],.i 0,.U,.U,.U,.i 0,.i 0] []) [],.n (.aj 1 9) [.t 4,.T 47]] []) .ret)) []
 .skip)) (.seq (.seq (.g [.f 48 0 (.t 3),.l 49 0 (.t 48),
 .o 50 (.aJ .eql) [.t 49,.i 9]] [48,49]) (.cond (.T 50) [] (.g [.m 51 (.t 0),.f 52 4 (.t 3),
 .l 53 0 (.t 52),.o 54 (.indexAddr 11) [.T 53,.i 0],.o 55 (.load true 11 false) [.T 54],
 .c 56 120 [.t 51,.T 55],
 .o 57 (.lit 11 1 [.i 0,.i 0,.str [],.str [],.i 0,.U,.i 0,.i 0,.i 0,.i 0,.i 0] [0]) [.T 56],
 .f 58 4 (.t 5),.n (.aj 2 1) [.t 58,.T 57]] [51,52,58]) [] (.g [.m 59 (.t 0),.f 60 4 (.t 3),
 .l 61 0 (.t 60),.c 62 121 [.t 59,.T 61],.f 63 4 (.t 5),.n (.aj 2 1) [.t 63,.T 62]] [59,60,63]))) (.seq
 (.seq (.g [.m 64 (.t 0),.c 65 46 [.t 64]] [64]) (.cond (.T 65) [0,3,5,6] (.seq (.g [
 .o 66 (.build [.i 0,.str [],.str [],.i 0,.U,.U,.U,.i 0,.i 0] []) [],.n (.aj 1 9) [.t 4,.T 66]] []) .ret) []
 .skip)) (.seq (.seq (.g [.f 67 0 (.t 3),.l 68 0 (.t 67),.o 69 (.aJ .eql) [.t 68,.i 1],
 .m 70 (.t 69),.z 71 (.fieldAddr 0) [.t 3] 70,.z 72 (.aL 0 false 1 false) [.t 71] 70,.z 73 (.aJ .eql) [.t 72,.i 2] 70,
 .o 74 .pick [.t 70,.b true,.t 73],.m 75 (.t 74),.z 76 (.fieldAddr 0) [.t 3] 75,.z 77 (.aL 0 false 1 false) [.t 76] 75,
 .z 78 (.aJ .eql) [.t 77,.i 3] 75,.o 79 .pick [.t 75,.b true,.t 78]] [67,68,69,70,71,72,73,74,75,76,77,78])
 (.cond (.T 79) [] (.g [.f 80 1 (.t 3),.l 81 0 (.t 80),.f 82 1 (.t 5),
 .n (.aj 2 1) [.t 82,.t 81]] [80,81,82]) [] .skip)) (.seq (.g [.m 84 (.t 0),.o 85 (.aL 2 true 9 false) [.t 5],
 .o 86 (.aL 3 true 3 false) [.t 6],.c 87 122 [.t 84,.T 85,.t 86],.m 83 (.T 87),.o 88 (.extract 0) [.t 83],.o 89 (.extract 1) [.T 83],
 .f 90 8 (.t 5),.n (.aj 2 1) [.t 90,.t 88],.m 7 (.t 89)] [6,84,86,88,89,90]) (.seq (.seq (.g [.m 91 (.t 7),
 .o 92 (.un .not) [.t 91]] [7,91]) (.cond (.T 92) [5] (.seq (.g [.m 93 (.t 0),.f 94 7 (.t 3),
 .l 95 0 (.t 94),.c 96 119 [.t 93,.t 95]] [0,3,93,94,95,96]) (.seq (.g [
 .o 97 (.build [.i 0,.str [],.str [],.i 0,.U,.U,.U,.i 0,.i 0] []) [],.n (.aj 1 9) [.t 4,.T 97]] []) .ret)) []
 .skip)) (.seq (.seq (.g [.f 98 0 (.t 3),.l 99 0 (.t 98),.o 100 (.aJ .eql) [.t 99,.i 5],
 .m 101 (.t 100),.z 102 (.fieldAddr 0) [.t 3] 101,.z 103 (.aL 0 false 1 false) [.t 102] 101,.z 104 (.aJ .eql) [.t 103,.i 6] 101,
 .o 105 .pick [.t 101,.b true,.t 104]] [98,99,100,101,102,103,104]) (.cond (.T 105) [] (.g [.m 106 (.t 0),
 .f 107 5 (.t 3),.l 108 0 (.t 107),.c 109 75 [.t 106,.T 108],.f 110 5 (.t 5),
 .n (.aj 2 1) [.t 110,.T 109]] [106,107,110]) [] .skip)) (.seq (.seq (.g [.f 111 0 (.t 3),
 .l 112 0 (.t 111),.o 113 (.aJ .eql) [.t 112,.i 5]] [111,112]) (.cond (.T 113) [] (.g [.m 114 (.t 0),
 .f 115 6 (.t 3),.l 116 0 (.t 115),.c 117 75 [.t 114,.T 116],.f 118 6 (.t 5),
 .n (.aj 2 1) [.t 118,.T 117]] [0,3,114,115,118]) [0,3] .skip)) (.seq (.g [.o 119 (.aL 2 true 9 false) [.t 5],
 .n (.aj 1 9) [.t 4,.T 119]] [5]) .ret))))))))))))) }
def Ur:bE:=
 (.seq (.g [.o 12 (.aJ .lss) [.t 11,.t 10]] []) (.seq (.cond (.T 12) [] .skip [9,10,11] (.exit 0)) (.seq (.block 1 (.seq (.g [
 .o 13 (.indexAddr 11) [.t 9,.t 11],.o 14 (.load true 11 false) [.T 13],
 .o 7 (.aN 1 [.i 0,.i 0,.str [],.str [],.i 0,.U,.i 0,.i 0,.i 0,.i 0,.i 0]) [],
 .n (.aj 1 11) [.t 7,.T 14]] []) (.g [.m 15 (.t 0),.o 16 (.aL 1 true 11 false) [.t 7],.m 17 (.t 2),
 .c 18 96 [.t 15,.T 16,.T 17]] [7,15,18]))) (.g [.o 19 (.aJ .add) [.t 11,.i 1],.m 11 (.t 19)] [19]))))
def s96:aD:={ eZ:=96,mode:=.mR,aE:=3,aM:=2,di:=[],results:=[],body:=
 (.seq (.g [.o 4 (.iA 0 11) [.T 1]] []) (.seq (.seq (.g [.f 8 5 (.t 4),.l 9 0 (.t 8),
 .o 10 (.len .sl) [.t 9],.m 11 (.i 0)] [8]) (.block 0 (.loop Ur))) (.seq (.g [.f 20 0 (.t 4),
 .l 21 0 (.t 20),.o 22 (.aJ .eql) [.t 21,.i 4],.m 23 (.t 22),.y 24 (.fieldAddr 10) [.t 4] 23,
 .y 25 (.aL 0 false 1 false) [.t 24] 23,.y 26 (.aJ .geq) [.t 25,.i 0] 23,.o 27 .pick [.t 23,.t 26,.b false],
 .m 28 (.t 27),.y 29 .move [.T 2] 28,.y 30 (.fieldAddr 10) [.t 4] 28,.y 31 (.aL 0 false 1 false) [.t 30] 28,.y 32 (.indexAddr 1) [.T 29,.t 31] 28,
 .y 33 (.load false 1 false) [.T 32] 28,.y 34 (.un .not) [.t 33] 28,.o 35 .pick [.t 28,.t 34,.b false],.m 36 (.t 35),
 .y 37 .move [.t 0] 36,.y 38 .nilCheck [.t 37] 36,.y 39 (.fieldAddr 0) [.T 38] 36,.y 40 (.fieldAddr 0) [.T 39] 36,.y 41 (.load false 1 false) [.T 40] 36,
 .y 42 (.aJ .eql) [.t 41,.i 0] 36,
 .o 43 .pick [.t 36,.t 42,.b false]] [2,20,21,22,23,24,25,26,27,28,29,30,31,32,33,34,35,36,37,38,39,40,41,42]) (.cond (.T 43) [] (.g [
 .m 44 (.t 0),.f 45 6 (.t 4),.l 46 0 (.t 45),
 .o 47 (.build [.i 0,.i 0] [(0,1),(1,1)]) [.i 3,.t 46],.o 48 .nilCheck [.t 44],.f 49 0 (.T 48),
 .n (.store 2) [.T 49,.t 47]] [0,4,44,45,46,47]) [0,4] .skip)))) }
def Us:bE:=
 (.seq (.seq (.g [.m 7 (.t 1),.o 8 .nilCheck [.t 7],.f 9 2 (.T 8),.d 10 (.T 9),.o 11 (.un .not) [.t 10],
 .m 12 (.t 11),.y 13 .move [.t 0] 12,.y 14 (.call 98) [.t 13] 12,.o 15 .pick [.t 12,.t 14,.b false]] [7,10,11,12,13,14])
 (.cond (.T 15) [] .skip [0,1,5] (.exit 0))) (.block 1 (.seq (.g [.m 16 (.t 0),.m 17 (.t 1),.f 18 4 (.t 5),
 .l 19 0 (.t 18),.o 20 (.indexAddr 11) [.T 19,.i 0],.o 21 (.load true 11 false) [.T 20],
 .c 22 123 [.t 16,.t 17,.T 21],.m 6 (.t 22)] [16,17,18,22]) (.seq (.seq (.g [.m 23 (.t 0),.c 24 31 [.t 23],
 .m 25 (.t 24),.z 26 .move [.t 6] 25,.z 27 (.aJ .eql) [.t 26,.i 0] 25,
 .o 28 .pick [.t 25,.b true,.t 27]] [6,23,24,25,26,27]) (.cond (.T 28) [0,1,5] .ret [] .skip)) (.g [.m 29 (.t 0),
 .m 30 (.t 1),.f 31 5 (.t 5),.l 32 0 (.t 31),.c 33 49 [.t 29,.t 30,.T 32]] [29,30,31,33])))))
def s97:aD:={ eZ:=97,mode:=.CN,aE:=3,aM:=1,di:=[],results:=[],body:=
 (.seq (.g [.o 5 (.iA 0 9) [.T 2]] []) (.block 0 (.loop Us))) }
def s98:aD:={ eZ:=98,mode:=.mR,aE:=1,aM:=0,di:=[],results:=[.tmp 2 false],body:=
 (.seq (.g [.m 2 (.b false)] [2]) (.seq (.seq (.g [.m 3 (.t 0),.c 4 31 [.t 3]] [3]) (.cond (.T 4) [0]
 (.seq (.g [.m 2 (.b false)] []) .ret) [] .skip)) (.seq (.seq (.r [.m 5 (.t 0),.o 6 .nilCheck [.t 5],
 .f 7 10 (.T 6),.f 8 3 (.T 7),.d 9 (.T 8),.m 10 (.t 0),.o 11 .nilCheck [.t 10],
 .f 12 7 (.T 11),.d 13 (.T 12),.o 14 (.aJ .geq) [.t 9,.t 13]] (some []) [5,9,10,13]) (.cond (.T 14) [] (.seq (.g [
 .m 15 (.t 0),.o 16 .nilCheck [.t 15],.f 17 10 (.T 16),.f 18 0 (.T 17),
 .n (.store 1) [.T 18,.i 3]] [0,15]) (.seq (.g [.m 2 (.b false)] []) .ret)) [] .skip)) (.seq (.g [
 .m 19 (.t 0),.o 20 .nilCheck [.t 19],.f 21 10 (.T 20),.f 22 3 (.T 21),.d 23 (.T 22),
 .o 24 (.aJ .add) [.t 23,.i 1],.o 25 .nilCheck [.t 19],.f 26 10 (.T 25),.f 27 3 (.T 26),
 .n (.store 1) [.T 27,.t 24]] [0,19,23,24]) (.seq (.g [.m 2 (.b true)] []) .ret))))) }
def s99:aD:={ eZ:=99,mode:=.CN,aE:=3,aM:=2,di:=[],results:=[],body:=
 (.seq (.g [.o 5 (.iA 0 9) [.T 2]] []) (.seq (.g [.f 9 4 (.t 5),.l 10 0 (.t 9),
 .o 11 (.indexAddr 11) [.T 10,.i 0],.o 12 (.load true 11 false) [.T 11],
 .o 6 (.aN 1 [.i 0,.i 0,.str [],.str [],.i 0,.U,.i 0,.i 0,.i 0,.i 0,.i 0]) [],
 .n (.aj 1 11) [.t 6,.T 12]] [9]) (.seq (.r [.m 14 (.t 0),.m 15 (.t 1),.f 16 5 (.t 6),
 .l 17 1 (.t 16),.f 18 4 (.t 5),.l 19 0 (.t 18),
 .o 20 (.slice false true false false 11) [.T 19,.i 1],.o 21 (.lit 1 2 [.U] [0,1]) [.T 17,.T 20],.c 22 124 [.T 21],
 .c 23 100 [.t 14,.t 15,.T 22],.m 13 (.T 23),.o 24 (.extract 0) [.t 13],.o 25 (.extract 1) [.t 13],.m 7 (.T 24),
 .m 8 (.t 25)] (some []) [1,5,13,14,15,16,18,25]) (.seq (.seq (.g [.m 26 (.t 8),.o 27 (.un .not) [.t 26]] [8,26])
 (.cond (.T 27) [0,6,7] .ret [] .skip)) (.seq (.seq (.g [.f 28 0 (.t 6),.l 29 1 (.t 28),
 .o 30 (.aJ .eql) [.t 29,.i 5]] [28,29]) (.cond (.T 30) [] (.seq (.r [.m 31 (.t 0),.m 32 (.t 0),
 .o 33 .nilCheck [.t 32],.f 34 5 (.T 33),.d 35 (.T 34),.m 36 (.t 7),
 .o 37 (.indexAddr 1) [.T 36,.i 0],.d 38 (.T 37),.f 39 10 (.t 6),.l 40 1 (.t 39),
 .m 41 (.t 7),.o 42 (.indexAddr 1) [.T 41,.i 1],.d 43 (.T 42),.c 44 125 [.t 35,.t 38,.t 40,.t 43],
 .c 45 48 [.t 31,.t 44]] (some []) [0,6,7,31,32,35,38,39,40,43,44,45]) .ret) [6] .skip)) (.r [.m 46 (.t 0),.m 47 (.t 0),
 .o 48 .nilCheck [.t 47],.f 49 5 (.T 48),.d 50 (.T 49),.m 51 (.t 7),
 .o 52 (.indexAddr 1) [.T 51,.i 0],.d 53 (.T 52),.m 54 (.t 7),.o 55 (.indexAddr 1) [.T 54,.i 1],
 .d 56 (.T 55),.m 57 (.t 7),.o 58 (.indexAddr 1) [.T 57,.i 2],.d 59 (.T 58),
 .c 60 125 [.t 50,.t 53,.t 56,.t 59],.c 61 48 [.t 46,.t 60]] (some []) [0,7,46,47,50,53,56,59,60,61])))))) }
def OF:bE:=
 (.seq (.g [.o 14 (.aJ .lss) [.t 13,.t 12]] []) (.seq (.cond (.T 14) [] .skip [0,1,11,12,13] (.exit 0)) (.seq (.block 1 (.seq (.g [
 .o 15 (.indexAddr 11) [.t 11,.t 13],.o 16 (.load true 11 false) [.T 15],
 .o 10 (.aN 0 [.i 0,.i 0,.str [],.str [],.i 0,.U,.i 0,.i 0,.i 0,.i 0,.i 0]) [],
 .n (.aj 0 11) [.t 10,.T 16]] []) (.seq (.g [.m 17 (.T 8),.m 18 (.t 0),.m 19 (.t 1),.o 20 (.aL 0 true 11 false) [.t 10],
 .c 21 123 [.t 18,.t 19,.T 20],.o 22 (.lit 1 1 [.i 0] [0]) [.t 21],.o 23 (.append 1 8) [.T 17,.T 22],.m 8 (.T 23)] [10,18,19,21])
 (.seq (.g [.m 24 (.t 0),.c 25 31 [.t 24]] [24]) (.cond (.T 25) [0,1,8,11,12,13] (.seq (.g [.o 6 .move [.const .U],
 .m 7 (.b false)] []) .ret) [] .skip))))) (.g [.o 26 (.aJ .add) [.t 13,.i 1],.m 13 (.t 26)] [26]))))
def acH:aD:={ eZ:=100,mode:=.CN,aE:=3,aM:=1,di:=[],results:=[.tmp 6 true,.tmp 7 false],body:=
 (.seq (.g [.o 6 .move [.const .U],.m 7 (.b false)] [6,7]) (.seq (.g [.o 8 .move [.const .U]] []) (.seq (.seq
 (.g [.m 11 (.T 2),.o 12 (.len .sl) [.t 11],.m 13 (.i 0)] []) (.block 0 (.loop OF))) (.seq (.g [
 .m 27 (.T 8),.m 6 (.T 27),.m 7 (.b true)] []) .ret)))) }
def Ut:aD:={ eZ:=101,mode:=.CN,aE:=3,aM:=0,di:=[],results:=[.tmp 6 false],body:=
 (.seq (.g [.o 6 .move [.const .cY]] [6]) (.seq (.seq (.g [.m 7 (.t 2),.o 8 (.aJ .lss) [.t 7,.i 0]] [7])
 (.cond (.T 8) [1] (.seq (.g [.m 9 (.t 0),.o 10 .nilCheck [.t 9],.f 11 8 (.T 10),.d 12 (.T 11),
 .m 13 (.t 2),.o 14 (.aJ .sub) [.const (.i (-1)),.t 13],.o 15 (.indexAddr 1) [.T 12,.t 14],.m 6 (.T 15)] [0,2,9,13,14]) .ret) [0]
 .skip)) (.seq (.g [.m 16 (.t 1),.o 17 .nilCheck [.t 16],.f 18 0 (.T 17),.d 19 (.T 18),.m 20 (.t 2),
 .o 21 (.indexAddr 1) [.T 19,.t 20],.m 6 (.T 21)] [1,2,16,20]) .ret))) }
def Uu:aD:={ eZ:=113,mode:=.mR,aE:=1,aM:=3,di:=[],results:=[.box 2 0 11 true],body:=
 (.seq (.g [
 .o 2 (.aN 0 [.i 0,.i 0,.str [],.str [],.i 0,.U,.i 0,.i 0,.i 0,.i 0,.i 0]) []] []) (.seq
 (.g [.m 6 (.t 0),.c 7 20 [.t 6],.o 3 (.aN 1 [.i 0,.str [],.i 0,.i 0]) [],
 .n (.aj 1 4) [.t 3,.t 7]] [6,7]) (.seq (.g [.m 4 (.i 0)] [4]) (.seq (.block 0 (.seq (.g [.m 13 (.t 0),
 .c 14 21 [.t 13,.const (.str [45])],.m 12 (.t 14)] [13,14]) (.cond (.T 12) [] (.g [.m 4 (.i 12)] []) []
 (.seq (.g [.m 16 (.t 0),.c 17 21 [.t 16,.const (.str [33])],.m 15 (.t 17)] [16,17]) (.cond (.T 15) [] (.g [
 .m 4 (.i 13)] []) [3] (.seq (.g [.m 8 (.t 0),.m 9 (.t 0),.c 10 138 [.t 9],
 .c 11 137 [.t 8,.T 10],.n (.aj 0 11) [.t 2,.T 11]] [0,8,9]) .ret)))))) (.seq (.g [.m 18 (.t 0),.f 19 1 (.t 3),
 .l 20 1 (.t 19),.c 21 65 [.t 18,.t 20]] [18,19,20,21]) (.seq (.g [.m 22 (.t 0),
 .c 23 91 [.t 22,.i 5],
 .o 5 (.aN 2 [.i 0,.i 0,.str [],.str [],.i 0,.U,.i 0,.i 0,.i 0,.i 0,.i 0]) [],
 .n (.aj 2 11) [.t 5,.T 23]] [22]) (.seq (.g [.m 24 (.t 0),.o 25 .nilCheck [.t 24],.f 26 2 (.T 25),
 .d 27 (.T 26),.o 28 (.aJ .sub) [.t 27,.i 1],.o 29 .nilCheck [.t 24],.f 30 2 (.T 29),
 .n (.store 1) [.T 30,.t 28]] [0,24,27,28]) (.seq (.g [.m 31 (.t 4),.o 32 (.aL 2 true 11 false) [.t 5],
 .o 33 (.lit 11 1 [.i 0,.i 0,.str [],.str [],.i 0,.U,.i 0,.i 0,.i 0,.i 0,.i 0] [0]) [.T 32],
 .f 34 3 (.t 3),.l 35 1 (.t 34),
 .o 36 (.build [.i 0,.i 0,.str [],.str [],.i 0,.U,.i 0,.i 0,.i 0,.i 0,.i 0] [(0,1),(5,1),(6,1)]) [.t 31,.T 33,.t 35],
 .n (.aj 0 11) [.t 2,.T 36]] [3,4,5,31,34,35]) .ret)))))))) }
def xG:bE:=
 (.seq (.seq (.g [.m 23 (.t 7),.m 24 (.t 5),.m 25 (.t 0),.o 26 (.indexAddr 1) [.T 24,.t 25],.d 27 (.T 26),
 .o 28 (.len .sl) [.T 27],.o 29 (.aJ .lss) [.t 23,.t 28]] [23,25,28]) (.cond (.T 29) [] .skip [0,3,5,6,7] (.exit 0))) (.seq (.block 1 (.seq (.r [
 .m 32 (.t 5),.m 33 (.t 0),.o 34 (.indexAddr 1) [.T 32,.t 33],.d 35 (.T 34),.m 36 (.t 7),
 .o 37 (.indexAddr 1) [.T 35,.t 36],.d 38 (.T 37),.f 39 1 (.t 3),.l 40 0 (.t 39),
 .o 41 (.aJ .eql) [.t 38,.t 40]] (some []) [33,36,38,39,40]) (.cond (.T 41) [3,5] (.seq (.g [.m 42 (.T 6),.m 43 (.t 0),
 .o 44 (.indexAddr 1) [.T 42,.t 43],.d 45 (.T 44),.m 46 (.t 7),.o 47 (.indexAddr 1) [.T 45,.t 46],
 .d 48 (.T 47),.m 4 (.t 48)] [0,7,43,46,48]) .ret) [] .skip))) (.g [.m 30 (.t 7),
 .o 31 (.aJ .add) [.t 30,.i 1],.m 7 (.t 31)] [30,31])))
def KW:aD:={ eZ:=114,mode:=.pure,aE:=2,aM:=1,di:=[],results:=[.tmp 4 false],body:=
 (.seq (.g [.o 3 (.iA 0 4) [.t 1],.m 4 (.i 0)] [1,4]) (.seq (.seq (.g [.f 8 0 (.t 3),
 .l 9 0 (.t 8),.o 10 (.aJ .neq) [.t 9,.i 4]] [8,9]) (.cond (.T 10) [0,3] (.seq (.g [
 .m 4 (.i 0)] []) .ret) [] .skip)) (.seq (.g [.o 11 (.lit 1 1 [.str []] [0]) [.const (.str [124,124])],
 .o 12 (.lit 1 1 [.str []] [0]) [.const (.str [38,38])],
 .o 13 (.lit 1 4 [.str []] [0,1,2,3]) [.const (.str [60]),.const (.str [60,61]),.const (.str [61,61]),.const (.str [33,61])],
 .o 14 (.lit 1 2 [.str []] [0,1]) [.const (.str [43]),.const (.str [45])],
 .o 15 (.lit 1 3 [.str []] [0,1,2]) [.const (.str [42]),.const (.str [47]),.const (.str [37])],
 .o 16 (.lit 1 5 [.U] [0,1,2,3,4]) [.T 11,.T 12,.T 13,.T 14,.T 15],.m 5 (.T 16)] []) (.seq (.g [
 .o 17 (.lit 1 1 [.i 0] [0]) [.i 24],.o 18 (.lit 1 1 [.i 0] [0]) [.i 23],
 .o 19 (.lit 1 4 [.i 0] [0,1,2,3]) [.i 19,.i 20,.i 21,.i 22],
 .o 20 (.lit 1 2 [.i 0] [0,1]) [.i 14,.i 15],
 .o 21 (.lit 1 3 [.i 0] [0,1,2]) [.i 16,.i 17,.i 18],
 .o 22 (.lit 1 5 [.U] [0,1,2,3,4]) [.T 17,.T 18,.T 19,.T 20,.T 21],.m 6 (.T 22)] []) (.seq (.seq (.g [
 .m 7 (.i 0)] []) (.block 0 (.loop xG))) (.seq (.g [.m 4 (.i 0)] []) .ret)))))) }
def Iz:bE:=
 (.seq (.g [.o 9 (.aJ .lss) [.t 8,.t 7]] []) (.seq (.cond (.T 9) [] .skip [0,1,7,8] (.exit 0)) (.seq (.block 1 (.seq (.g [.m 10 (.t 8),
 .m 5 (.t 10)] [10]) (.seq (.g [.m 11 (.t 1),.m 12 (.t 0),.m 13 (.t 5),.o 14 (.indexAddr 1) [.T 12,.t 13],
 .d 15 (.T 14),.o 16 (.aJ .eql) [.t 11,.t 15]] [11,13,15]) (.cond (.T 16) [0,1,7,8] (.seq (.g [.m 17 (.t 5),
 .m 4 (.t 17)] [5,17]) .ret) [5] .skip)))) (.g [.o 18 (.aJ .add) [.t 8,.i 1],.m 8 (.t 18)] [18]))))
def Uv:aD:={ eZ:=115,mode:=.pure,aE:=2,aM:=0,di:=[],results:=[.tmp 4 false],body:=
 (.seq (.g [.m 4 (.i 0)] [4]) (.seq (.seq (.g [.m 6 (.t 0),.o 7 (.len .sl) [.T 6],
 .m 8 (.i 0)] []) (.block 0 (.loop Iz))) (.seq (.g [.o 4 .move [.const (.i (-1))]] []) .ret))) }
def yT:aD:={ eZ:=116,mode:=.pure,aE:=2,aM:=2,di:=[],results:=[.box 4 1 3 true,.tmp 5 false],body:=
 (.seq (.g [.o 3 (.iA 0 2) [.t 1],.o 4 (.aN 1 [.i 0,.i 0,.i 0]) [],.m 5 (.b false)] [1,5]) (.seq
 (.seq (.g [.f 7 1 (.t 3),.l 8 0 (.t 7),.o 9 (.aJ .lss) [.t 8,.i 0],.m 10 (.t 9),
 .z 11 (.fieldAddr 1) [.t 3] 10,.z 12 (.aL 0 false 1 false) [.t 11] 10,.z 13 (.aJ .gtr) [.t 12,.i 3] 10,
 .o 14 .pick [.t 10,.b true,.t 13]] [7,8,9,10,11,12,13]) (.cond (.T 14) [0,3] (.seq (.g [
 .o 15 (.build [.i 0,.i 0,.i 0] []) [],.n (.aj 1 3) [.t 4,.t 15],.m 5 (.b false)] [15]) .ret) [] .skip))
 (.seq (.seq (.g [.f 16 0 (.t 3),.l 17 0 (.t 16)] [16]) (.block 0 (.seq (.g [
 .o 19 (.aJ .eql) [.t 17,.const (.str [105,110,116])],.m 18 (.t 19)] [19]) (.cond (.T 18) [0,17] (.seq (.g [.f 20 1 (.t 3),
 .l 21 0 (.t 20),.o 22 (.build [.i 0,.i 0,.i 0] [(0,1),(2,1)]) [.i 1,.t 21],
 .n (.aj 1 3) [.t 4,.t 22],.m 5 (.b true)] [3,20,21,22]) .ret) [] (.seq (.g [
 .o 24 (.aJ .eql) [.t 17,.const (.str [98,111,111,108])],.m 23 (.t 24)] [17,24]) (.cond (.T 23) [0] (.seq (.g [.f 25 1 (.t 3),
 .l 26 0 (.t 25),.o 27 (.build [.i 0,.i 0,.i 0] [(0,1),(2,1)]) [.i 2,.t 26],
 .n (.aj 1 3) [.t 4,.t 27],.m 5 (.b true)] [3,25,26,27]) .ret) [] .skip)))))) (.seq (.g [.m 28 (.T 0),
 .f 29 0 (.t 3),.l 30 0 (.t 29),.c 31 115 [.T 28,.t 30],.m 6 (.t 31)] [29,30,31]) (.seq (.seq
 (.g [.m 32 (.t 6),.o 33 (.aJ .lss) [.t 32,.i 0]] [32]) (.cond (.T 33) [3,6] (.seq (.g [
 .o 34 (.build [.i 0,.i 0,.i 0] []) [],.n (.aj 1 3) [.t 4,.t 34],.m 5 (.b false)] [34]) .ret) [] .skip))
 (.seq (.g [.m 35 (.t 6),.f 36 1 (.t 3),.l 37 0 (.t 36),
 .o 38 (.build [.i 0,.i 0,.i 0] [(0,1),(1,1),(2,1)]) [.i 3,.t 35,.t 37],.n (.aj 1 3) [.t 4,.t 38],
 .m 5 (.b true)] [3,6,35,36,37,38]) .ret)))))) }
def acI:aD:={ eZ:=117,mode:=.pure,aE:=0,aM:=1,di:=[],results:=[.box 0 0 3 true],body:=
 (.seq (.g [.o 0 (.aN 0 [.i 0,.i 0,.i 0]) []] []) (.seq (.g [
 .o 1 (.build [.i 0,.i 0,.i 0] []) [],.n (.aj 0 3) [.t 0,.t 1]] [1]) .ret)) }
def oL:aD:={ eZ:=118,mode:=.mR,aE:=2,aM:=1,di:=[],results:=[.tmp 4 false],body:=
 (.seq (.g [.o 3 (.iA 0 9) [.T 1],.m 4 (.b false)] [4]) (.seq (.seq (.g [.f 5 0 (.t 3),
 .l 6 0 (.t 5)] [5]) (.block 0 (.seq (.g [.o 8 (.aJ .eql) [.t 6,.i 1],.m 7 (.t 8)] [8])
 (.cond (.T 7) [0,6] (.seq (.g [.f 9 4 (.t 3),.l 10 0 (.t 9),.o 11 (.len .sl) [.T 10],
 .o 12 (.aJ .eql) [.t 11,.i 0],.m 4 (.t 12)] [3,9,11,12]) .ret) [] (.seq (.g [.o 14 (.aJ .eql) [.t 6,.i 4],
 .m 13 (.t 14)] [14]) (.cond (.T 13) [0,6] (.seq (.g [.f 15 4 (.t 3),.l 16 0 (.t 15),
 .o 17 (.len .sl) [.T 16],.o 18 (.aJ .eql) [.t 17,.i 2],.m 19 (.t 18),.y 20 (.fieldAddr 4) [.t 3] 19,
 .y 21 (.aL 0 false 1 false) [.t 20] 19,.y 22 (.indexAddr 11) [.T 21,.i 0] 19,.y 23 (.fieldAddr 0) [.T 22] 19,
 .y 24 (.load false 1 false) [.T 23] 19,.y 25 (.aJ .eql) [.t 24,.i 5] 19,.y 26 .move [.t 25] 19,.z 27 (.fieldAddr 4) [.t 3] 26,
 .z 28 (.aL 0 false 1 false) [.t 27] 26,.z 29 (.indexAddr 11) [.T 28,.i 0] 26,.z 30 (.fieldAddr 0) [.T 29] 26,
 .z 31 (.load false 1 false) [.T 30] 26,.z 32 (.aJ .eql) [.t 31,.i 6] 26,.y 33 .pick [.t 26,.b true,.t 32] 19,
 .o 34 .pick [.t 19,.t 33,.b false],.m 4 (.t 34)] [3,15,17,18,19,20,21,22,23,24,25,26,27,28,29,30,31,32,33,34]) .ret) [] (.seq
 (.g [.o 36 (.aJ .eql) [.t 6,.i 7],.m 35 (.t 36)] [36]) (.cond (.T 35) [6] (.seq (.g [.f 37 4 (.t 3),
 .l 38 0 (.t 37),.o 39 (.len .sl) [.T 38],.o 40 (.aJ .eql) [.t 39,.i 1],.m 41 (.t 40),.y 42 .move [.t 0] 41,
 .y 43 .nilCheck [.t 42] 41,.y 44 (.fieldAddr 5) [.T 43] 41,.y 45 (.fieldAddr 2) [.T 44] 41,.y 46 (.load false 1 false) [.T 45] 41,
 .o 47 .pick [.t 41,.t 46,.b false],.m 48 (.t 47),.z 49 (.fieldAddr 4) [.t 3] 48,.z 50 (.aL 0 false 1 false) [.t 49] 48,
 .z 51 (.len .sl) [.T 50] 48,.z 52 (.aJ .eql) [.t 51,.i 0] 48,.z 53 .move [.t 52] 48,.y 54 .move [.t 0] 53,.y 55 .nilCheck [.t 54] 53,
 .y 56 (.fieldAddr 5) [.T 55] 53,.y 57 (.fieldAddr 2) [.T 56] 53,.y 58 (.load false 1 false) [.T 57] 53,.y 59 (.un .not) [.t 58] 53,
 .z 60 .pick [.t 53,.t 59,.b false] 48,.o 61 .pick [.t 48,.b true,.t 60],
 .m 4 (.t 61)] [0,3,37,39,40,41,42,43,44,45,46,47,48,49,50,51,52,53,54,55,56,57,58,59,60,61]) .ret) [0] (.seq (.g [
 .o 63 (.aJ .eql) [.t 6,.i 9],.m 62 (.t 63)] [63]) (.cond (.T 62) [6] (.seq (.g [.f 64 4 (.t 3),
 .l 65 0 (.t 64),.o 66 (.len .sl) [.T 65],.o 67 (.aJ .eql) [.t 66,.i 1],.m 68 (.t 67),
 .y 69 (.fieldAddr 4) [.t 3] 68,.y 70 (.aL 0 false 1 false) [.t 69] 68,.y 71 (.indexAddr 11) [.T 70,.i 0] 68,
 .y 72 (.fieldAddr 0) [.T 71] 68,.y 73 (.load false 1 false) [.T 72] 68,.y 74 (.aJ .eql) [.t 73,.i 7] 68,
 .o 75 .pick [.t 68,.t 74,.b false],.m 4 (.t 75)] [3,64,66,67,68,69,70,71,72,73,74,75]) .ret) [] (.seq (.seq (.g [
 .o 77 (.aJ .eql) [.t 6,.i 2],.m 76 (.t 77)] [77]) (.cond (.t 76) [6] .skip [76] (.seq (.g [
 .o 78 (.aJ .eql) [.t 6,.i 3],.m 76 (.t 78)] [78]) (.cond (.t 76) [6] .skip [76] (.seq (.g [
 .o 79 (.aJ .eql) [.t 6,.i 5],.m 76 (.t 79)] [79]) (.cond (.t 76) [6] .skip [76] (.seq (.g [
 .o 80 (.aJ .eql) [.t 6,.i 6],.m 76 (.t 80)] [80]) (.cond (.t 76) [6] .skip [76] (.g [
 .o 81 (.aJ .eql) [.t 6,.i 8],.m 76 (.t 81)] [6,81]))))))))) (.cond (.T 76) [] (.seq (.g [.f 82 4 (.t 3),
 .l 83 0 (.t 82),.o 84 (.len .sl) [.T 83],.o 85 (.aJ .eql) [.t 84,.i 1],.m 4 (.t 85)] [3,82,84,85])
 .ret) [3] .skip)))))))))))) (.seq (.g [.m 4 (.b false)] []) .ret))) }
def Yo:aD:={ eZ:=119,mode:=.mR,aE:=2,aM:=0,di:=[],results:=[],body:=
 (.seq (.g [.m 4 (.t 0),.c 5 46 [.t 4],.o 6 (.un .not) [.t 5]] [4,5]) (.cond (.T 6) [] (.g [.m 7 (.t 0),
 .m 8 (.t 1),.o 9 (.build [.i 0,.i 0] [(0,1),(1,1)]) [.i 3,.t 8],.o 10 .nilCheck [.t 7],.f 11 12 (.T 10),
 .n (.store 2) [.T 11,.t 9]] [0,1,7,8,9]) [0,1] .skip)) }
def IA:aD:={ eZ:=120,mode:=.mR,aE:=2,aM:=3,di:=[],results:=[.box 4 1 11 true],body:=
 (.seq (.g [.o 3 (.iA 0 11) [.T 1],
 .o 4 (.aN 1 [.i 0,.i 0,.str [],.str [],.i 0,.U,.i 0,.i 0,.i 0,.i 0,.i 0]) []] []) (.seq
 (.seq (.g [.o 7 (.aL 0 true 11 false) [.t 3],.c 8 139 [.T 7],.o 9 (.un .not) [.t 8]] [8]) (.cond (.T 9) [] (.seq (.g [
 .m 10 (.t 0),.f 11 6 (.t 3),.l 12 0 (.t 11),.c 13 119 [.t 10,.t 12]] [0,3,10,11,12,13]) (.seq
 (.g [.o 14 (.build [.i 0,.i 0,.str [],.str [],.i 0,.U,.i 0,.i 0,.i 0,.i 0,.i 0] []) [],
 .n (.aj 1 11) [.t 4,.T 14]] []) .ret)) [] .skip)) (.seq (.g [.o 15 (.aL 0 true 11 false) [.t 3],.c 16 140 [.T 15],
 .o 5 (.aN 2 [.i 0,.i 0,.str [],.str [],.i 0,.U,.i 0,.i 0,.i 0,.i 0,.i 0]) [],
 .n (.aj 2 11) [.t 5,.T 16]] []) (.seq (.g [.m 17 (.t 0),.f 18 5 (.t 3),.l 19 0 (.t 18),
 .c 20 121 [.t 17,.T 19],.f 21 5 (.t 5),.n (.aj 2 1) [.t 21,.T 20]] [17,18,21]) (.seq (.seq (.g [.m 22 (.t 0),
 .c 23 46 [.t 22]] [22]) (.cond (.T 23) [0,3,5] (.seq (.g [
 .o 24 (.build [.i 0,.i 0,.str [],.str [],.i 0,.U,.i 0,.i 0,.i 0,.i 0,.i 0] []) [],
 .n (.aj 1 11) [.t 4,.T 24]] []) .ret) [] .skip)) (.seq (.g [.m 6 (.b false)] [6]) (.seq (.g [.m 26 (.t 0),
 .o 27 (.aL 2 true 11 false) [.t 5],.c 28 141 [.t 26,.T 27],.m 25 (.T 28),.o 29 (.extract 0) [.t 25],.o 30 (.extract 1) [.t 25],
 .o 31 (.extract 2) [.T 25],.f 32 7 (.t 5),.n (.aj 2 3) [.t 32,.t 29],.f 33 10 (.t 5),.n (.aj 2 1) [.t 33,.t 30],
 .m 6 (.t 31)] [26,29,30,31,32,33]) (.seq (.seq (.g [.m 34 (.t 6),.o 35 (.un .not) [.t 34]] [6,34]) (.cond (.T 35) [] (.g [
 .m 36 (.t 0),.f 37 6 (.t 3),.l 38 0 (.t 37),.c 39 119 [.t 36,.t 38]] [0,3,36,37,38,39]) [0,3]
 .skip)) (.seq (.g [.o 40 (.aL 2 true 11 false) [.t 5],.n (.aj 1 11) [.t 4,.T 40]] [5]) .ret))))))))) }
def IB:bE:=
 (.seq (.g [.o 11 (.aJ .lss) [.t 10,.t 9]] []) (.seq (.cond (.T 11) [] .skip [0,8,9,10] (.exit 0)) (.seq (.block 1 (.seq (.g [
 .o 12 (.indexAddr 11) [.t 8,.t 10],.o 13 (.load true 11 false) [.T 12],
 .o 7 (.aN 0 [.i 0,.i 0,.str [],.str [],.i 0,.U,.i 0,.i 0,.i 0,.i 0,.i 0]) [],
 .n (.aj 0 11) [.t 7,.T 13]] []) (.seq (.seq (.g [.m 14 (.t 0),.c 15 46 [.t 14]] [14]) (.cond (.T 15) [0,5,7,8,9,10] (.seq
 (.g [.o 4 .move [.const .U]] []) .ret) [] .skip)) (.g [.m 16 (.T 5),.m 17 (.t 0),.o 18 (.aL 0 true 11 false) [.t 7],
 .c 19 142 [.t 17,.T 18],
 .o 20 (.lit 11 1 [.i 0,.i 0,.str [],.str [],.i 0,.U,.i 0,.i 0,.i 0,.i 0,.i 0] [0]) [.T 19],
 .o 21 (.append 11 120) [.T 16,.T 20],.m 5 (.T 21)] [7,17])))) (.g [.o 22 (.aJ .add) [.t 10,.i 1],
 .m 10 (.t 22)] [22]))))
def Uw:aD:={ eZ:=121,mode:=.mR,aE:=2,aM:=1,di:=[],results:=[.tmp 4 true],body:=
 (.seq (.g [.o 4 .move [.const .U]] [4]) (.seq (.g [.o 5 .move [.const .U]] []) (.seq (.seq (.g [.m 8 (.T 1),
 .o 9 (.len .sl) [.t 8],.m 10 (.i 0)] []) (.block 0 (.loop IB))) (.seq (.g [.m 23 (.T 5),
 .m 4 (.T 23)] []) .ret)))) }
end bX
