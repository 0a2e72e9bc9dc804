/- The annotated code of the loaded program,printed by wip/tools/gen.py. -/
import Derived.Test.YtachcambnjecnaaGreatA6

set_option maxRecDepth 100000
namespace aT
open Ax Go
def s4:aC:={ eL:=4,mode:=.pure,nparams:=1,aJ:=4,dc:=[],results:=[.tmp 2 false],body:=
 (.seq (.g [.m 2 (.b false)] [2]) (.seq (.g [.m 8 (.t 0),.c 9 5 [.t 8],.m 7 (.T 9),
 .o 10 (.extract 0) [.t 7],.o 11 (.extract 1) [.T 7],.o 3 (.aE 0 [.U,.U,.U]) [],.o 4 (.aE 1 [.i 0,.i 0]) [],
 .n (.ag 0 3) [.t 3,.T 10],.n (.ag 1 2) [.t 4,.t 11]] [8,11]) (.seq (.seq (.g [.m 12 (.t 0),.o 13 (.len .str) [.t 12],
 .o 14 (.bin .gtr) [.t 13,.i 7000],.m 15 (.t 14),.z 16 (.fieldAddr 0) [.t 4] 15,.z 17 (.aj 1 false 1 false) [.t 16] 15,
 .z 18 (.bin .neq) [.t 17,.i 0] 15,.o 19 .pick [.t 15,.b true,.t 18]] [0,4,12,13,14,15,16,17,18]) (.cond (.T 19) [3] (.seq
 (.g [.m 2 (.b true)] []) .ret) [] .skip)) (.seq (.g [.o 21 (.aj 0 true 3 false) [.t 3],.c 22 6 [.T 21],
 .m 20 (.T 22),.o 23 (.extract 0) [.t 20],.o 24 (.extract 1) [.T 20],.o 5 (.aE 2 [.U,.U,.U,.U,.i 0]) [],
 .o 6 (.aE 3 [.i 0,.i 0]) [],.n (.ag 2 5) [.t 5,.T 23],.n (.ag 3 2) [.t 6,.t 24]] [3,24]) (.seq (.r [
 .o 25 (.aj 2 true 5 false) [.t 5],.c 26 10 [.T 25],.f 27 0 (.t 6),.l 28 3 (.t 27),
 .o 29 (.bin .eql) [.t 28,.i 0],.o 30 (.eqv (.sc .bool) false) [.t 26,.t 29],.m 31 (.t 30),.y 32 (.call 9) [] 31,
 .o 33 .pick [.t 31,.t 32,.b false],.m 2 (.t 33)] (some []) [5,6,26,27,28,29,30,31,32,33]) .ret))))) }
def Wb:bG:=
 (.seq (.seq (.g [.m 21 (.t 6),.c 22 12 [.t 21],.m 23 (.t 22),.y 24 .move [.t 6] 23,.y 25 (.call 13) [.t 24] 23,
 .y 26 (.field 0 1 false) [.t 25] 23,.y 27 (.bin .neq) [.t 26,.i 0] 23,
 .o 28 .pick [.t 23,.t 27,.b false]] [21,22,23,24,25,26,27]) (.cond (.T 28) [] .skip [] (.exit 0))) (.block 1 (.block 2 (.seq (.seq (.g [
 .m 32 (.t 6),.c 33 14 [.t 32,.const (.str [114,101,99,111,114,100])],.m 34 (.t 33),.y 35 (.fieldAddr 0) [.t 7] 34,
 .y 36 (.aj 3 false 1 false) [.t 35] 34,.y 37 (.len .sl) [.T 36] 34,.y 38 (.bin .eql) [.t 37,.i 12] 34,
 .o 39 .pick [.t 34,.t 38,.b false],.m 31 (.t 39)] [32,33,34,35,36,37,38,39]) (.cond (.t 31) [] .skip [31] (.seq (.g [
 .m 40 (.t 6),.c 41 14 [.t 40,.const (.str [103,108,111,98,97,108])],.m 42 (.t 41),.y 43 (.fieldAddr 1) [.t 7] 42,
 .y 44 (.aj 3 false 1 false) [.t 43] 42,.y 45 (.len .sl) [.T 44] 42,.y 46 (.bin .eql) [.t 45,.i 8] 42,
 .o 47 .pick [.t 42,.t 46,.b false],.m 31 (.t 47)] [40,41,42,43,44,45,46,47]) (.cond (.t 31) [] .skip [31] (.g [
 .m 48 (.t 6),.c 49 14 [.t 48,.const (.str [102,117,110,99])],.m 50 (.t 49),.y 51 (.fieldAddr 2) [.t 7] 50,
 .y 52 (.aj 3 false 1 false) [.t 51] 50,.y 53 (.len .sl) [.T 52] 50,.y 54 (.bin .eql) [.t 53,.i 16] 50,
 .o 55 .pick [.t 50,.t 54,.b false],.m 31 (.t 55)] [48,49,50,51,52,53,54,55]))))) (.cond (.T 31) [] (.g [.m 56 (.t 6),
 .c 57 15 [.t 56,.i 4]] [56,57]) [] (.seq (.g [.m 59 (.t 6),
 .c 60 14 [.t 59,.const (.str [114,101,99,111,114,100])],.m 58 (.t 60)] [59,60]) (.cond (.T 58) [] (.seq (.g [.m 61 (.t 6),
 .o 62 .nilCheck [.t 61],.f 63 1 (.T 62),.d 64 (.T 63),.o 65 (.bin .add) [.t 64,.i 1],
 .o 66 .nilCheck [.t 61],.f 67 1 (.T 66),.n (.store 1) [.T 67,.t 65]] [61,64,65]) (.r [.f 68 0 (.t 7),
 .o 69 (.aj 3 false 1 true) [.t 68],.m 70 (.t 6),.c 71 16 [.t 70],.o 72 (.lit 3 1 [.str [],.U,.i 0] [0]) [.T 71],
 .o 73 (.append 3 48) [.T 69,.T 72],.f 74 0 (.t 7),.n (.ag 3 1) [.t 74,.T 73]] (some []) [68,70,74])) [] (.seq (.g [
 .m 76 (.t 6),.c 77 14 [.t 76,.const (.str [103,108,111,98,97,108])],.m 75 (.t 77)] [76,77]) (.cond (.T 75) [] (.seq (.g [
 .m 78 (.t 6),.o 79 .nilCheck [.t 78],.f 80 1 (.T 79),.d 81 (.T 80),
 .o 82 (.bin .add) [.t 81,.i 1],.o 83 .nilCheck [.t 78],.f 84 1 (.T 83),.n (.store 1) [.T 84,.t 82]] [78,81,82]) (.seq
 (.r [.f 85 1 (.t 7),.o 86 (.aj 3 false 1 true) [.t 85],.m 87 (.t 6),.c 88 17 [.t 87],
 .o 89 (.lit 4 1 [.str [],.str [],.i 0,.i 0] [0]) [.t 88],.o 90 (.append 4 48) [.T 86,.T 89],.f 91 1 (.t 7),
 .n (.ag 3 1) [.t 91,.T 90]] (some []) [85,87,88,91]) (.g [.m 92 (.t 6),.c 93 18 [.t 92,.const (.str [59])]] [92,93]))) [] (.seq
 (.g [.m 95 (.t 6),.c 96 14 [.t 95,.const (.str [102,117,110,99])],.m 94 (.t 96)] [95,96]) (.cond (.T 94) [] (.seq (.g [
 .m 97 (.t 6),.o 98 .nilCheck [.t 97],.f 99 1 (.T 98),.d 100 (.T 99),
 .o 101 (.bin .add) [.t 100,.i 1],.o 102 .nilCheck [.t 97],.f 103 1 (.T 102),.n (.store 1) [.T 103,.t 101]] [97,100,101])
 (.r [.f 104 2 (.t 7),.o 105 (.aj 3 false 1 true) [.t 104],.m 106 (.t 6),.c 107 19 [.t 106],
 .o 108 (.lit 7 1 [.str [],.U,.bool false,.str [],.i 0,.U,.i 0] [0]) [.T 107],.o 109 (.append 7 104) [.T 105,.T 108],
 .f 110 2 (.t 7),.n (.ag 3 1) [.t 110,.T 109]] (some []) [104,106,110])) [] (.g [.m 29 (.t 6),
 .c 30 15 [.t 29,.i 2]] [29,30]))))))))))))
def s5:aC:={ eL:=5,mode:=.pure,nparams:=1,aJ:=4,dc:=[],results:=[.box 2 0 3 true,.box 3 1 2 true],body:=
 (.seq (.g [.o 2 (.aE 0 [.U,.U,.U]) [],.o 3 (.aE 1 [.i 0,.i 0]) []] []) (.seq (.g [.m 9 (.t 0),
 .c 10 11 [.t 9],.m 8 (.T 10),.o 11 (.extract 0) [.t 8],.o 12 (.extract 1) [.T 8],.o 5 (.aE 2 [.i 0,.i 0]) [],
 .m 4 (.T 11),.n (.ag 2 2) [.t 5,.t 12]] [0,9,12]) (.seq (.seq (.g [.f 13 0 (.t 5),.l 14 2 (.t 13),
 .o 15 (.bin .neq) [.t 14,.i 0]] [13,14]) (.cond (.T 15) [4] (.seq (.r [.o 16 (.build [.U,.U,.U] []) [],
 .o 17 (.aj 2 true 2 false) [.t 5],.n (.ag 0 3) [.t 2,.T 16],.n (.ag 1 2) [.t 3,.t 17]] (some []) [5,17]) .ret) [5] .skip)) (.seq (.g [
 .m 18 (.T 4),.o 19 (.build [.U,.i 0,.i 0,.i 0,.i 0] [(0,1)]) [.T 18],.o 20 (.box 5) [.T 19],
 .m 6 (.t 20)] [20]) (.seq (.g [.o 7 (.aE 3 [.U,.U,.U]) []] []) (.seq (.block 0 (.loop Wb)) (.seq (.seq (.g [
 .m 111 (.t 6),.c 112 12 [.t 111],.o 113 (.un .not) [.t 112]] [111,112]) (.cond (.T 113) [7] (.seq (.r [
 .o 114 (.build [.U,.U,.U] []) [],.m 115 (.t 6),.o 116 .nilCheck [.t 115],.f 117 3 (.T 116),
 .o 118 (.load true 2 false) [.T 117],.n (.ag 0 3) [.t 2,.T 114],.n (.ag 1 2) [.t 3,.t 118]] (some []) [6,115,118]) .ret) [6] .skip)) (.seq
 (.g [.o 119 (.aj 3 true 3 false) [.t 7],.o 120 (.build [.i 0,.i 0] []) [],.n (.ag 0 3) [.t 2,.T 119],
 .n (.ag 1 2) [.t 3,.t 120]] [7,120]) .ret)))))))) }
def Wc:bG:=
 (.seq (.g [.o 48 (.bin .lss) [.t 47,.t 46]] []) (.seq (.cond (.T 48) [] .skip [45,46,47] (.exit 0)) (.seq (.block 1 (.seq (.g [
 .o 49 (.indexAddr 4) [.t 45,.t 47],.o 50 (.load true 4 false) [.T 49],.o 9 (.aE 6 [.str [],.i 0,.i 0,.i 0]) [],
 .n (.ag 6 4) [.t 9,.t 50]] [50]) (.r [.m 51 (.t 7),.m 52 (.t 7),.o 53 .nilCheck [.t 52],.f 54 0 (.T 53),
 .f 55 1 (.T 54),.o 56 (.load false 1 true) [.T 55],.f 57 1 (.t 9),.o 58 (.aj 6 true 3 false) [.t 57],
 .o 59 (.lit 3 1 [.i 0,.i 0,.i 0] [0]) [.t 58],.o 60 (.append 3 24) [.T 56,.T 59],.o 61 .nilCheck [.t 51],.f 62 0 (.T 61),
 .f 63 1 (.T 62),.n (.store 1) [.T 63,.T 60]] (some []) [9,51,52,57,58]))) (.g [.o 64 (.bin .add) [.t 47,.i 1],
 .m 47 (.t 64)] [64]))))
def Wd:bG:=
 (.seq (.g [.o 69 (.bin .lss) [.t 68,.t 67]] []) (.seq (.cond (.T 69) [] .skip [4,10,66,67,68] (.exit 2)) (.seq (.block 3 (.seq (.g [
 .m 70 (.t 68),.o 71 (.indexAddr 3) [.t 66,.t 68],.o 72 (.load true 3 false) [.T 71],.o 12 (.aE 7 [.U,.U,.i 0]) [],
 .m 11 (.t 70),.n (.ag 7 3) [.t 12,.T 72]] [70]) (.seq (.r [.m 73 (.t 7),.f 74 0 (.t 4),
 .f 75 2 (.t 74),.l 76 3 (.t 75),.m 77 (.t 11),.o 78 (.indexAddr 6) [.T 76,.t 77],
 .o 79 (.load true 6 false) [.T 78],.o 80 (.aj 7 true 3 false) [.t 12],.c 81 23 [.t 73,.T 79,.T 80]] (some []) [11,73,74,75,77,81]) (.seq
 (.g [.m 82 (.t 10),.m 83 (.t 7),.o 84 .nilCheck [.t 83],.f 85 5 (.T 84),.f 86 6 (.T 85),
 .d 87 (.T 86),.o 88 (.len .sl) [.T 87],.o 89 (.bin .add) [.t 82,.t 88],.m 10 (.t 89)] [82,83,88,89]) (.seq (.g [
 .m 90 (.t 7),.o 91 .nilCheck [.t 90],.f 92 5 (.T 91),.f 93 1 (.T 92),.d 94 (.T 93),
 .o 95 (.len .sl) [.T 94],.o 96 (.bin .gtr) [.t 95,.i 4000],.m 97 (.t 96),.z 98 .move [.t 10] 97,
 .z 99 (.bin .gtr) [.t 98,.i 2500] 97,.o 100 .pick [.t 97,.b true,.t 99],.m 101 (.t 100),.z 102 .move [.t 7] 101,
 .z 103 .nilCheck [.t 102] 101,.z 104 (.fieldAddr 0) [.T 103] 101,.z 105 (.fieldAddr 3) [.T 104] 101,.z 106 (.load false 1 false) [.T 105] 101,
 .z 107 (.len .sl) [.T 106] 101,.z 108 (.bin .gtr) [.t 107,.i 60] 101,
 .o 109 .pick [.t 101,.b true,.t 108]] [90,95,96,97,98,99,100,101,102,103,104,105,106,107,108]) (.cond (.T 109) [4,7,10,66,67,68] (.seq
 (.r [.o 110 (.build [.U,.U,.U,.U,.i 0] []) [],.f 111 2 (.t 12),.l 112 7 (.t 111),
 .o 113 (.build [.i 0,.i 0] [(0,1),(1,1)]) [.i 4,.t 112],.n (.ag 1 5) [.t 2,.T 110],
 .n (.ag 2 2) [.t 3,.t 113]] (some []) [12,111,112,113]) .ret) [12] .skip)))))) (.g [.o 114 (.bin .add) [.t 68,.i 1],
 .m 68 (.t 114)] [114]))))
def s6:aC:={ eL:=6,mode:=.pure,nparams:=1,aJ:=8,dc:=[],results:=[.box 2 1 5 true,.box 3 2 2 true],body:=
 (.seq (.g [.o 1 (.dW 0 3) [.T 0],.o 2 (.aE 1 [.U,.U,.U,.U,.i 0]) [],
 .o 3 (.aE 2 [.i 0,.i 0]) []] []) (.seq (.g [.o 14 (.aj 0 true 3 false) [.t 1],.c 15 20 [.T 14],.m 13 (.T 15),
 .o 16 (.extract 0) [.t 13],.o 17 (.extract 1) [.T 13],.o 4 (.aE 3 [.U,.U,.U,.i 0,.U]) [],
 .o 5 (.aE 4 [.i 0,.i 0]) [],.n (.ag 3 5) [.t 4,.T 16],.n (.ag 4 2) [.t 5,.t 17]] [17]) (.seq (.seq (.g [
 .f 18 0 (.t 5),.l 19 4 (.t 18),.o 20 (.bin .neq) [.t 19,.i 0]] [18,19]) (.cond (.T 20) [1,4] (.seq
 (.r [.o 21 (.build [.U,.U,.U,.U,.i 0] []) [],.o 22 (.aj 4 true 2 false) [.t 5],.n (.ag 1 5) [.t 2,.T 21],
 .n (.ag 2 2) [.t 3,.t 22]] (some []) [5,22]) .ret) [5] .skip)) (.seq (.seq (.g [.o 23 (.aj 0 true 3 false) [.t 1],.c 24 21 [.T 23],
 .o 6 (.aE 5 [.i 0,.i 0]) [],.n (.ag 5 2) [.t 6,.t 24]] [24]) (.seq (.g [.f 25 0 (.t 6),
 .l 26 5 (.t 25),.o 27 (.bin .neq) [.t 26,.i 0]] [25,26]) (.cond (.T 27) [1,4] (.seq (.r [
 .o 28 (.build [.U,.U,.U,.U,.i 0] []) [],.o 29 (.aj 5 true 2 false) [.t 6],.n (.ag 1 5) [.t 2,.T 28],
 .n (.ag 2 2) [.t 3,.t 29]] (some []) [6,29]) .ret) [6] .skip))) (.seq (.seq (.g [.o 30 (.aj 0 true 3 false) [.t 1],
 .c 31 22 [.T 30]] [1]) (.cond (.T 31) [4] (.seq (.g [.o 32 (.build [.U,.U,.U,.U,.i 0] []) [],
 .o 33 (.build [.i 0,.i 0] [(0,1)]) [.i 4],.n (.ag 1 5) [.t 2,.T 32],.n (.ag 2 2) [.t 3,.t 33]] [33]) .ret) []
 .skip)) (.seq (.g [.f 34 0 (.t 4),.f 35 0 (.t 34),.l 36 3 (.t 35),.f 37 0 (.t 4),
 .f 38 3 (.t 37),.l 39 3 (.t 38),.o 40 (.build [.U,.U,.U,.U,.i 0] [(0,1),(4,1)]) [.T 36,.t 39],
 .o 41 (.build [.U,.U,.U,.U,.i 0,.i 0,.U,.bool false,.i 0,.i 0,.i 0,.U] [(0,5)]) [.T 40],
 .o 42 (.box 12) [.T 41],.m 7 (.t 42)] [34,35,37,38,39,42]) (.seq (.seq (.g [.f 43 0 (.t 4),.f 44 1 (.t 43),
 .l 45 3 (.t 44),.o 46 (.len .sl) [.t 45],.m 47 (.i 0)] [43,44]) (.block 0 (.loop Wc))) (.seq (.g [
 .m 10 (.i 0)] []) (.seq (.seq (.g [.f 65 4 (.t 4),.l 66 3 (.t 65),
 .o 67 (.len .sl) [.t 66],.m 68 (.i 0)] [65]) (.block 2 (.loop Wd))) (.seq (.g [.m 115 (.t 7),
 .o 116 .nilCheck [.t 115],.f 117 0 (.T 116),.o 118 (.load true 5 false) [.T 117],.o 119 (.build [.i 0,.i 0] []) [],
 .n (.ag 1 5) [.t 2,.T 118],.n (.ag 2 2) [.t 3,.t 119]] [7,115,119]) .ret)))))))))) }
def s9:aC:={ eL:=9,mode:=.pure,nparams:=0,aJ:=4,dc:=[],results:=[.tmp 0 false],body:=
 (.seq (.g [.m 0 (.b false)] [0]) (.seq (.g [
 .c 6 5 [.const (.str [102,117,110,99,32,109,97,105,110,40,41,32,123,32,112,114,105,110,116,32,49,59,32,125])],.m 5 (.T 6),
 .o 7 (.extract 0) [.t 5],.o 8 (.extract 1) [.T 5],.o 1 (.aE 0 [.U,.U,.U]) [],.o 2 (.aE 1 [.i 0,.i 0]) [],
 .n (.ag 0 3) [.t 1,.T 7],.n (.ag 1 2) [.t 2,.t 8]] [2,8]) (.seq (.g [.o 10 (.aj 0 true 3 false) [.t 1],.c 11 6 [.T 10],
 .m 9 (.T 11),.o 12 (.extract 0) [.t 9],.o 13 (.extract 1) [.T 9],.o 3 (.aE 2 [.U,.U,.U,.U,.i 0]) [],
 .o 4 (.aE 3 [.i 0,.i 0]) [],.n (.ag 2 5) [.t 3,.T 12],.n (.ag 3 2) [.t 4,.t 13]] [1,13]) (.seq (.g [
 .f 14 0 (.t 4),.l 15 3 (.t 14),.o 16 (.bin .eql) [.t 15,.i 0],.m 17 (.t 16),
 .y 18 (.fieldAddr 2) [.t 3] 17,.y 19 (.aj 2 false 1 false) [.t 18] 17,.y 20 (.len .sl) [.T 19] 17,.y 21 (.bin .eql) [.t 20,.i 1] 17,
 .o 22 .pick [.t 17,.t 21,.b false],.m 23 (.t 22),.y 24 (.fieldAddr 2) [.t 3] 23,.y 25 (.aj 2 false 1 false) [.t 24] 23,
 .y 26 (.indexAddr 7) [.T 25,.i 0] 23,.y 27 (.fieldAddr 6) [.T 26] 23,.y 28 (.load false 1 false) [.T 27] 23,.y 29 (.len .sl) [.T 28] 23,
 .y 30 (.bin .eql) [.t 29,.i 3] 23,.o 31 .pick [.t 23,.t 30,.b false],.m 32 (.t 31),.y 33 (.fieldAddr 2) [.t 3] 32,
 .y 34 (.aj 2 false 1 false) [.t 33] 32,.y 35 (.indexAddr 7) [.T 34,.i 0] 32,.y 36 (.fieldAddr 6) [.T 35] 32,
 .y 37 (.load false 1 false) [.T 36] 32,.y 38 (.indexAddr 6) [.T 37,.i 0] 32,.y 39 (.fieldAddr 0) [.T 38] 32,
 .y 40 (.load false 1 false) [.T 39] 32,.y 41 (.bin .eql) [.t 40,.i 1] 32,.o 42 .pick [.t 32,.t 41,.b false],
 .m 43 (.t 42),.y 44 (.fieldAddr 2) [.t 3] 43,.y 45 (.aj 2 false 1 false) [.t 44] 43,.y 46 (.indexAddr 7) [.T 45,.i 0] 43,
 .y 47 (.fieldAddr 6) [.T 46] 43,.y 48 (.load false 1 false) [.T 47] 43,.y 49 (.indexAddr 6) [.T 48,.i 0] 43,
 .y 50 (.fieldAddr 4) [.T 49] 43,.y 51 (.load false 1 false) [.T 50] 43,.y 52 (.bin .eql) [.t 51,.i 1] 43,
 .o 53 .pick [.t 43,.t 52,.b false],.m 54 (.t 53),.y 55 (.fieldAddr 2) [.t 3] 54,.y 56 (.aj 2 false 1 false) [.t 55] 54,
 .y 57 (.indexAddr 7) [.T 56,.i 0] 54,.y 58 (.fieldAddr 6) [.T 57] 54,.y 59 (.load false 1 false) [.T 58] 54,
 .y 60 (.indexAddr 6) [.T 59,.i 2] 54,.y 61 (.fieldAddr 1) [.T 60] 54,.y 62 (.load false 1 false) [.T 61] 54,
 .y 63 (.bin .eql) [.t 62,.const (.i (-1))] 54,.o 64 .pick [.t 54,.t 63,.b false],
 .m 0 (.t 64)] [3,4,14,15,16,17,18,19,20,21,22,23,24,25,26,27,28,29,30,31,32,33,34,35,36,37,38,39,40,41,42,43,44,45,46,47,48,49,50,51,52,53,54,55,56,57,58,59,60,61,62,63,64])
 .ret)))) }
def Pj:bG:=
 (.seq (.seq (.g [.m 66 (.t 5),.m 67 (.t 4),.o 68 (.len .sl) [.T 67],.o 69 (.bin .lss) [.t 66,.t 68]] [66,68]) (.cond (.T 69) []
 .skip [4,5] (.exit 2))) (.seq (.block 3 (.seq (.r [.o 72 (.aj 0 true 5 false) [.t 1],.m 73 (.t 4),.m 74 (.t 5),
 .o 75 (.indexAddr 4) [.T 73,.t 74],.f 76 1 (.T 75),.o 77 (.load true 3 false) [.T 76],.c 78 33 [.T 72,.t 77],
 .o 79 (.un .not) [.t 78]] (some []) [74,77,78]) (.cond (.T 79) [1,3,4,5] (.seq (.g [.m 2 (.b false)] []) .ret) [] .skip)))
 (.g [.m 70 (.t 5),.o 71 (.bin .add) [.t 70,.i 1],.m 5 (.t 71)] [70,71])))
def Pk:bG:=
 (.seq (.seq (.g [.m 50 (.t 3),.f 51 0 (.t 1),.l 52 0 (.t 51),.o 53 (.len .sl) [.T 52],
 .o 54 (.bin .lss) [.t 50,.t 53]] [50,51,53]) (.cond (.T 54) [] .skip [3] (.exit 0))) (.seq (.block 1 (.seq (.g [.f 57 0 (.t 1),
 .l 58 0 (.t 57),.m 59 (.t 3),.o 60 (.indexAddr 2) [.T 58,.t 59],.f 61 1 (.T 60),
 .d 62 (.T 61),.m 4 (.T 62)] [57,59]) (.seq (.seq (.g [.m 63 (.t 4),.o 64 (.len .sl) [.T 63],
 .o 65 (.bin .gtr) [.t 64,.i 8]] [64]) (.cond (.T 65) [1,3,4] (.seq (.g [.m 2 (.b false)] []) .ret) []
 .skip)) (.seq (.g [.m 5 (.i 0)] []) (.block 2 (.loop Pj)))))) (.g [.m 55 (.t 3),
 .o 56 (.bin .add) [.t 55,.i 1],.m 3 (.t 56)] [55,56])))
def Pm:bG:=
 (.seq (.seq (.g [.m 80 (.t 6),.f 81 3 (.t 1),.l 82 0 (.t 81),.o 83 (.len .sl) [.T 82],
 .o 84 (.bin .lss) [.t 80,.t 83]] [80,81,83]) (.cond (.T 84) [] .skip [6] (.exit 4))) (.seq (.block 5 (.seq (.g [.f 87 3 (.t 1),
 .l 88 0 (.t 87),.m 89 (.t 6),.o 90 (.indexAddr 4) [.T 88,.t 89],.o 91 (.load true 4 false) [.T 90],
 .o 7 (.aE 1 [.i 0,.i 0,.i 0,.i 0]) [],.n (.ag 1 4) [.t 7,.t 91]] [87,89,91]) (.seq (.g [
 .f 92 0 (.t 7),.l 93 1 (.t 92),.o 94 (.bin .lss) [.t 93,.i 0],.m 95 (.t 94),
 .z 96 (.fieldAddr 0) [.t 7] 95,.z 97 (.aj 1 false 1 false) [.t 96] 95,.z 98 (.fieldAddr 2) [.t 1] 95,.z 99 (.aj 0 false 1 false) [.t 98] 95,
 .z 100 (.len .sl) [.T 99] 95,.z 101 (.bin .geq) [.t 97,.t 100] 95,.o 102 .pick [.t 95,.b true,.t 101],.m 103 (.t 102),
 .z 104 (.aj 0 true 5 false) [.t 1] 103,.z 105 (.fieldAddr 1) [.t 7] 103,.z 106 (.aj 1 true 3 false) [.t 105] 103,
 .z 107 (.call 33) [.T 104,.t 106] 103,.z 108 (.un .not) [.t 107] 103,.o 109 .pick [.t 103,.b true,.t 108],.m 110 (.t 109),
 .z 111 (.fieldAddr 1) [.t 7] 110,.z 112 (.aj 1 true 3 false) [.t 111] 110,.z 113 (.call 34) [.t 112] 110,.z 114 (.un .not) [.t 113] 110,
 .o 115 .pick [.t 110,.b true,.t 114]] [7,92,93,94,95,96,97,98,99,100,101,102,103,104,105,106,107,108,109,110,111,112,113,114])
 (.cond (.T 115) [1,6] (.seq (.g [.m 2 (.b false)] []) .ret) [] .skip)))) (.g [.m 85 (.t 6),
 .o 86 (.bin .add) [.t 85,.i 1],.m 6 (.t 86)] [85,86])))
def Pn:bG:=
 (.seq (.seq (.g [.m 116 (.t 9),.f 117 2 (.t 1),.l 118 0 (.t 117),.o 119 (.len .sl) [.T 118],
 .o 120 (.bin .lss) [.t 116,.t 119]] [116,117,119]) (.cond (.T 120) [] .skip [8,9] (.exit 6))) (.seq (.block 7 (.seq (.g [
 .f 123 2 (.t 1),.l 124 0 (.t 123),.m 125 (.t 9),.o 126 (.indexAddr 7) [.T 124,.t 125],
 .o 127 (.load true 7 false) [.T 126],.o 10 (.aE 2 [.i 0,.U,.bool false,.i 0,.i 0,.i 0,.U]) [],
 .n (.ag 2 7) [.t 10,.T 127]] [123,125]) (.seq (.g [.m 128 (.t 8),.f 129 6 (.t 10),
 .l 130 2 (.t 129),.o 131 (.len .sl) [.T 130],.o 132 (.bin .add) [.t 128,.t 131],.m 8 (.t 132)] [128,129,131,132]) (.seq
 (.seq (.g [.f 133 1 (.t 10),.l 134 2 (.t 133),.o 135 (.len .sl) [.T 134],
 .o 136 (.bin .gtr) [.t 135,.i 4000],.m 137 (.t 136),.z 138 (.fieldAddr 0) [.t 10] 137,.z 139 (.aj 2 false 1 false) [.t 138] 137,
 .z 140 (.bin .lss) [.t 139,.i 0] 137,.o 141 .pick [.t 137,.b true,.t 140],.m 142 (.t 141),
 .z 143 (.fieldAddr 0) [.t 10] 142,.z 144 (.aj 2 false 1 false) [.t 143] 142,.z 145 (.bin .gtr) [.t 144,.i 6] 142,
 .o 146 .pick [.t 142,.b true,.t 145],.m 147 (.t 146),.z 148 (.fieldAddr 0) [.t 10] 147,.z 149 (.aj 2 false 1 false) [.t 148] 147,
 .z 150 (.fieldAddr 1) [.t 10] 147,.z 151 (.aj 2 false 1 false) [.t 150] 147,.z 152 (.len .sl) [.T 151] 147,.z 153 (.bin .gtr) [.t 149,.t 152] 147,
 .o 154 .pick [.t 147,.b true,.t 153],.m 155 (.t 154),.z 156 (.aj 0 true 5 false) [.t 1] 155,.z 157 (.fieldAddr 1) [.t 10] 155,
 .z 158 (.aj 2 false 1 false) [.t 157] 155,.z 159 (.call 32) [.T 156,.T 158] 155,.z 160 (.un .not) [.t 159] 155,
 .o 161 .pick [.t 155,.b true,.t 160],.m 162 (.t 161),.z 163 (.fieldAddr 6) [.t 10] 162,.z 164 (.aj 2 false 1 false) [.t 163] 162,
 .z 165 (.len .sl) [.T 164] 162,.z 166 (.bin .lss) [.t 165,.i 1] 162,.o 167 .pick [.t 162,.b true,.t 166],.m 168 (.t 167),
 .z 169 .move [.t 8] 168,.z 170 (.bin .gtr) [.t 169,.i 2500] 168,
 .o 171 .pick [.t 168,.b true,.t 170]] [133,135,136,137,138,139,140,141,142,143,144,145,146,147,148,149,150,151,152,153,154,155,156,157,158,159,160,161,162,163,164,165,166,167,168,169,170])
 (.cond (.T 171) [1,8,9,10] (.seq (.g [.m 2 (.b false)] []) .ret) [] .skip)) (.seq (.g [.f 172 2 (.t 10),
 .l 173 2 (.t 172),.m 174 (.t 173),.y 175 (.aj 0 true 5 false) [.t 1] 174,.y 176 (.fieldAddr 3) [.t 10] 174,
 .y 177 (.aj 2 true 3 false) [.t 176] 174,.y 178 (.call 33) [.T 175,.t 177] 174,.y 179 (.un .not) [.t 178] 174,
 .o 180 .pick [.t 174,.t 179,.b false],.m 181 (.t 180),.z 182 (.fieldAddr 2) [.t 10] 181,.z 183 (.aj 2 false 1 false) [.t 182] 181,
 .z 184 (.un .not) [.t 183] 181,.z 185 .move [.t 184] 181,.y 186 (.fieldAddr 3) [.t 10] 185,.y 187 (.aj 2 true 3 false) [.t 186] 185,
 .y 188 (.build [.i 0,.i 0,.i 0] []) [] 185,.y 189 (.eqv (.flat [.int,.int,.int]) true) [.t 187,.t 188] 185,
 .z 190 .pick [.t 185,.t 189,.b false] 181,
 .o 191 .pick [.t 181,.b true,.t 190]] [10,172,173,174,175,176,177,178,179,180,181,182,183,184,185,186,187,188,189,190])
 (.cond (.T 191) [1,8,9] (.seq (.g [.m 2 (.b false)] []) .ret) [] .skip)))))) (.g [.m 121 (.t 9),
 .o 122 (.bin .add) [.t 121,.i 1],.m 9 (.t 122)] [121,122])))
def Po:bG:=
 (.seq (.seq (.g [.m 205 (.t 13),.m 206 (.t 12),.o 207 (.len .sl) [.T 206],.o 208 (.bin .lss) [.t 205,.t 207]] [205,207])
 (.cond (.T 208) [] .skip [13] (.exit 10))) (.seq (.block 11 (.seq (.r [.o 211 (.aj 0 true 5 false) [.t 1],.m 212 (.t 11),
 .m 213 (.t 12),.m 214 (.t 13),.o 215 (.indexAddr 6) [.T 213,.t 214],.o 216 (.load true 6 false) [.T 215],
 .c 217 35 [.T 211,.t 212,.T 216],.o 218 (.un .not) [.t 217]] (some []) [212,214,217]) (.cond (.T 218) [1,11,12,13] (.seq (.g [
 .m 2 (.b false)] []) .ret) [] .skip))) (.g [.m 209 (.t 13),.o 210 (.bin .add) [.t 209,.i 1],
 .m 13 (.t 210)] [209,210])))
def Pp:bG:=
 (.seq (.seq (.g [.m 192 (.t 11),.f 193 2 (.t 1),.l 194 0 (.t 193),.o 195 (.len .sl) [.T 194],
 .o 196 (.bin .lss) [.t 192,.t 195]] [192,193,195]) (.cond (.T 196) [] .skip [11] (.exit 8))) (.seq (.block 9 (.seq (.g [
 .f 199 2 (.t 1),.l 200 0 (.t 199),.m 201 (.t 11),.o 202 (.indexAddr 7) [.T 200,.t 201],
 .f 203 6 (.T 202),.d 204 (.T 203),.m 12 (.T 204)] [199,201]) (.seq (.seq (.g [
 .m 13 (.i 0)] []) (.block 10 (.loop Po))) (.seq (.g [.m 219 (.t 12),.m 220 (.T 12),
 .o 221 (.len .sl) [.T 220],.o 222 (.bin .sub) [.t 221,.i 1],.o 223 (.indexAddr 6) [.T 219,.t 222],.f 224 0 (.T 223),
 .d 225 (.T 224),.m 14 (.t 225)] [221,222,225]) (.seq (.g [.m 226 (.t 14),
 .o 227 (.bin .neq) [.t 226,.i 16],.m 228 (.t 227),.y 229 .move [.t 14] 228,.y 230 (.bin .neq) [.t 229,.i 17] 228,
 .o 231 .pick [.t 228,.t 230,.b false],.m 232 (.t 231),.y 233 .move [.t 14] 232,.y 234 (.bin .neq) [.t 233,.i 18] 232,
 .o 235 .pick [.t 232,.t 234,.b false]] [14,226,227,228,229,230,231,232,233,234]) (.cond (.T 235) [1,11] (.seq (.g [
 .m 2 (.b false)] []) .ret) [] .skip)))))) (.g [.m 197 (.t 11),.o 198 (.bin .add) [.t 197,.i 1],
 .m 11 (.t 198)] [197,198])))
def Ui:aC:={ eL:=10,mode:=.pure,nparams:=1,aJ:=3,dc:=[],results:=[.tmp 2 false],body:=
 (.seq (.g [.o 1 (.dW 0 5) [.T 0],.m 2 (.b false)] [2]) (.seq (.seq (.g [.f 15 0 (.t 1),
 .l 16 0 (.t 15),.o 17 (.len .sl) [.T 16],.o 18 (.bin .gtr) [.t 17,.i 12],.m 19 (.t 18),
 .z 20 (.fieldAddr 1) [.t 1] 19,.z 21 (.aj 0 false 1 false) [.t 20] 19,.z 22 (.len .sl) [.T 21] 19,.z 23 (.bin .gtr) [.t 22,.i 8] 19,
 .o 24 .pick [.t 19,.b true,.t 23],.m 25 (.t 24),.z 26 (.fieldAddr 2) [.t 1] 25,.z 27 (.aj 0 false 1 false) [.t 26] 25,
 .z 28 (.len .sl) [.T 27] 25,.z 29 (.bin .lss) [.t 28,.i 1] 25,.o 30 .pick [.t 25,.b true,.t 29],.m 31 (.t 30),
 .z 32 (.fieldAddr 2) [.t 1] 31,.z 33 (.aj 0 false 1 false) [.t 32] 31,.z 34 (.len .sl) [.T 33] 31,.z 35 (.bin .gtr) [.t 34,.i 16] 31,
 .o 36 .pick [.t 31,.b true,.t 35],.m 37 (.t 36),.z 38 (.fieldAddr 3) [.t 1] 37,.z 39 (.aj 0 false 1 false) [.t 38] 37,
 .z 40 (.len .sl) [.T 39] 37,.z 41 (.bin .gtr) [.t 40,.i 60] 37,.o 42 .pick [.t 37,.b true,.t 41],.m 43 (.t 42),
 .z 44 (.aj 0 true 5 false) [.t 1] 43,.z 45 (.fieldAddr 1) [.t 1] 43,.z 46 (.aj 0 false 1 false) [.t 45] 43,.z 47 (.call 32) [.T 44,.T 46] 43,
 .z 48 (.un .not) [.t 47] 43,
 .o 49 .pick [.t 43,.b true,.t 48]] [15,17,18,19,20,21,22,23,24,25,26,27,28,29,30,31,32,33,34,35,36,37,38,39,40,41,42,43,44,45,46,47,48])
 (.cond (.T 49) [1] (.seq (.g [.m 2 (.b false)] []) .ret) [] .skip)) (.seq (.seq (.g [
 .m 3 (.i 0)] []) (.block 0 (.loop Pk))) (.seq (.seq (.g [.m 6 (.i 0)] []) (.block 4
 (.loop Pm))) (.seq (.g [.m 8 (.i 0)] []) (.seq (.seq (.g [.m 9 (.i 0)] []) (.block 6
 (.loop Pn))) (.seq (.seq (.g [.m 11 (.i 0)] []) (.block 8 (.loop Pp))) (.seq (.g [.f 236 4 (.t 1),
 .l 237 0 (.t 236),.o 238 (.bin .geq) [.t 237,.i 0],.m 239 (.t 238),.y 240 (.fieldAddr 4) [.t 1] 239,
 .y 241 (.aj 0 false 1 false) [.t 240] 239,.y 242 (.fieldAddr 2) [.t 1] 239,.y 243 (.aj 0 false 1 false) [.t 242] 239,.y 244 (.len .sl) [.T 243] 239,
 .y 245 (.bin .lss) [.t 241,.t 244] 239,.o 246 .pick [.t 239,.t 245,.b false],.m 247 (.t 246),.y 248 (.fieldAddr 2) [.t 1] 247,
 .y 249 (.aj 0 false 1 false) [.t 248] 247,.y 250 (.fieldAddr 4) [.t 1] 247,.y 251 (.aj 0 false 1 false) [.t 250] 247,
 .y 252 (.indexAddr 7) [.T 249,.t 251] 247,.y 253 (.fieldAddr 0) [.T 252] 247,.y 254 (.load false 1 false) [.T 253] 247,
 .y 255 (.bin .eql) [.t 254,.i 0] 247,.o 256 .pick [.t 247,.t 255,.b false],.m 257 (.t 256),
 .y 258 (.fieldAddr 2) [.t 1] 257,.y 259 (.aj 0 false 1 false) [.t 258] 257,.y 260 (.fieldAddr 4) [.t 1] 257,
 .y 261 (.aj 0 false 1 false) [.t 260] 257,.y 262 (.indexAddr 7) [.T 259,.t 261] 257,.y 263 (.fieldAddr 2) [.T 262] 257,
 .y 264 (.load false 1 false) [.T 263] 257,.y 265 (.un .not) [.t 264] 257,.o 266 .pick [.t 257,.t 265,.b false],
 .m 2 (.t 266)] [1,236,237,238,239,240,241,242,243,244,245,246,247,248,249,250,251,252,253,254,255,256,257,258,259,260,261,262,263,264,265,266])
 .ret)))))))) }
def Pq:bG:=
 (.seq (.seq (.g [.m 14 (.t 5),.m 15 (.t 0),.o 16 (.len .str) [.t 15],.o 17 (.bin .lss) [.t 14,.t 16]] [14,15,16]) (.cond (.T 17) []
 .skip [5] (.exit 0))) (.block 1 (.seq (.g [.m 19 (.t 0),.m 20 (.t 5),.c 21 37 [.t 19,.t 20],.m 18 (.T 21),
 .o 22 (.extract 0) [.t 18],.o 23 (.extract 1) [.T 18],.o 6 (.aE 1 [.i 0,.str [],.i 0,.i 0]) [],.n (.ag 1 4) [.t 6,.t 22],
 .m 7 (.t 23)] [19,20,22,23]) (.seq (.seq (.g [.m 24 (.t 7),.o 25 (.bin .eql) [.t 24,.i 0]] [24])
 (.cond (.T 25) [0,4,6,7] (.seq (.g [.m 26 (.t 5),.o 27 (.build [.i 0,.i 0] [(0,1),(1,1)]) [.i 1,.t 26],
 .o 2 .move [.const .U],.n (.ag 0 2) [.t 3,.t 27]] [5,26,27]) .ret) [] .skip)) (.seq (.g [.m 28 (.T 4),
 .o 29 (.aj 1 true 4 false) [.t 6],.o 30 (.lit 4 1 [.i 0,.str [],.i 0,.i 0] [0]) [.t 29],.o 31 (.append 4 40) [.T 28,.T 30],
 .m 4 (.T 31)] [6,29]) (.g [.m 32 (.t 0),.m 33 (.t 5),.m 34 (.t 7),.o 35 (.bin .add) [.t 33,.t 34],
 .c 36 36 [.t 32,.t 35],.m 5 (.t 36)] [7,32,33,34,35,36]))))))
def s11:aC:={ eL:=11,mode:=.pure,nparams:=1,aJ:=2,dc:=[],results:=[.tmp 2 true,.box 3 0 2 true],body:=
 (.seq (.g [.o 2 .move [.const .U],.o 3 (.aE 0 [.i 0,.i 0]) []] [2]) (.seq (.seq (.g [.m 8 (.t 0),
 .o 9 (.len .str) [.t 8],.o 10 (.bin .gtr) [.t 9,.i 6000]] [8,9]) (.cond (.T 10) [0] (.seq (.g [
 .o 11 (.build [.i 0,.i 0] [(0,1)]) [.i 4],.o 2 .move [.const .U],.n (.ag 0 2) [.t 3,.t 11]] [11]) .ret) []
 .skip)) (.seq (.g [.o 4 .move [.const .U]] []) (.seq (.g [.m 12 (.t 0),.c 13 36 [.t 12,.i 0],
 .m 5 (.t 13)] [12,13]) (.seq (.block 0 (.loop Pq)) (.seq (.g [.m 37 (.T 4),.m 38 (.t 0),.o 39 (.len .str) [.t 38],
 .o 40 (.build [.i 0,.str [],.i 0,.i 0] [(0,1),(3,1)]) [.i 0,.t 39],
 .o 41 (.lit 4 1 [.i 0,.str [],.i 0,.i 0] [0]) [.t 40],.o 42 (.append 4 40) [.T 37,.T 41],
 .o 43 (.build [.i 0,.i 0] []) [],.m 2 (.T 42),.n (.ag 0 2) [.t 3,.t 43]] [0,38,39,40,43]) .ret)))))) }
def s12:aC:={ eL:=12,mode:=.lS,nparams:=1,aJ:=0,dc:=[],results:=[.tmp 2 false],body:=
 (.seq (.g [.m 2 (.b false)] [2]) (.seq (.g [.m 3 (.t 0),.o 4 .nilCheck [.t 3],.f 5 3 (.T 4),
 .f 6 0 (.T 5),.d 7 (.T 6),.o 8 (.bin .eql) [.t 7,.i 0],.m 2 (.t 8)] [0,3,7,8]) .ret)) }
def s13:aC:={ eL:=13,mode:=.lS,nparams:=1,aJ:=1,dc:=[],results:=[.box 2 0 4 true],body:=
 (.seq (.g [.o 2 (.aE 0 [.i 0,.str [],.i 0,.i 0]) []] []) (.seq (.seq (.r [.m 3 (.t 0),.o 4 .nilCheck [.t 3],
 .f 5 1 (.T 4),.d 6 (.T 5),.o 7 (.bin .lss) [.t 6,.i 0],.m 8 (.t 7),.z 9 .move [.t 0] 8,
 .z 10 .nilCheck [.t 9] 8,.z 11 (.fieldAddr 1) [.T 10] 8,.z 12 (.load false 1 false) [.T 11] 8,.z 13 .move [.t 0] 8,.z 14 .nilCheck [.t 13] 8,
 .z 15 (.fieldAddr 0) [.T 14] 8,.z 16 (.load false 1 false) [.T 15] 8,.z 17 (.len .sl) [.T 16] 8,.z 18 (.bin .geq) [.t 12,.t 17] 8,
 .o 19 .pick [.t 8,.b true,.t 18]] (some []) [3,6,7,8,9,10,11,12,13,14,15,16,17,18]) (.cond (.T 19) [0] (.seq (.g [
 .o 20 (.build [.i 0,.str [],.i 0,.i 0] [(0,1)]) [.i 0],.n (.ag 0 4) [.t 2,.t 20]] [20]) .ret) [] .skip)) (.seq
 (.r [.m 21 (.t 0),.o 22 .nilCheck [.t 21],.f 23 0 (.T 22),.d 24 (.T 23),.m 25 (.t 0),
 .o 26 .nilCheck [.t 25],.f 27 1 (.T 26),.d 28 (.T 27),.o 29 (.indexAddr 4) [.T 24,.t 28],
 .o 30 (.load true 4 false) [.T 29],.n (.ag 0 4) [.t 2,.t 30]] (some []) [0,21,25,28,30]) .ret))) }
def s14:aC:={ eL:=14,mode:=.lS,nparams:=2,aJ:=1,dc:=[],results:=[.tmp 4 false],body:=
 (.seq (.g [.m 4 (.b false)] [4]) (.seq (.g [.m 7 (.t 0),.c 8 13 [.t 7],
 .o 5 (.aE 0 [.i 0,.str [],.i 0,.i 0]) [],.n (.ag 0 4) [.t 5,.t 8]] [7,8]) (.seq (.g [
 .m 6 (.i 4)] []) (.seq (.seq (.g [.m 9 (.t 1),.o 10 .index [.t 9,.i 0],
 .o 11 (.bin .geq) [.t 10,.const (.int .u8 97)],.m 12 (.t 11),.y 13 .move [.t 1] 12,.y 14 .index [.t 13,.i 0] 12,
 .y 15 (.bin .leq) [.t 14,.const (.int .u8 122)] 12,.o 16 .pick [.t 12,.t 15,.b false]] [9,10,11,12,13,14,15]) (.cond (.T 16) [6] (.g [
 .m 6 (.i 3)] []) [] .skip)) (.seq (.g [.m 17 (.t 0),.c 18 12 [.t 17],.m 19 (.t 18),
 .y 20 (.fieldAddr 0) [.t 5] 19,.y 21 (.aj 0 false 1 false) [.t 20] 19,.y 22 .move [.t 6] 19,.y 23 (.bin .eql) [.t 21,.t 22] 19,
 .o 24 .pick [.t 19,.t 23,.b false],.m 25 (.t 24),.y 26 (.fieldAddr 1) [.t 5] 25,.y 27 (.aj 0 false 1 false) [.t 26] 25,
 .y 28 .move [.t 1] 25,.y 29 (.bin .eql) [.t 27,.t 28] 25,.o 30 .pick [.t 25,.t 29,.b false],
 .m 4 (.t 30)] [0,1,5,6,17,18,19,20,21,22,23,24,25,26,27,28,29,30]) .ret))))) }
def s15:aC:={ eL:=15,mode:=.lS,nparams:=2,aJ:=0,dc:=[],results:=[],body:=
 (.seq (.g [.m 4 (.t 0),.c 5 12 [.t 4]] [4]) (.cond (.T 5) [] (.g [.m 6 (.t 0),.m 7 (.t 1),.m 8 (.t 0),
 .c 9 13 [.t 8],.o 10 (.field 3 1 false) [.t 9],.o 11 (.build [.i 0,.i 0] [(0,1),(1,1)]) [.t 7,.t 10],.o 12 .nilCheck [.t 6],
 .f 13 3 (.T 12),.n (.store 2) [.T 13,.t 11]] [0,1,6,7,8,9,10,11]) [0,1] .skip)) }
def Pr:bG:=
 (.seq (.seq (.g [.m 13 (.t 0),.c 14 12 [.t 13],.m 15 (.t 14),.y 16 .move [.t 0] 15,
 .y 17 (.call 14) [.t 16,.const (.str [125])] 15,.y 18 (.un .not) [.t 17] 15,.o 19 .pick [.t 15,.t 18,.b false]] [13,14,15,16,17,18])
 (.cond (.T 19) [] .skip [] (.exit 0))) (.block 1 (.seq (.seq (.g [.m 20 (.t 0),.c 21 13 [.t 20],.o 22 (.field 0 1 false) [.t 21],
 .o 23 (.bin .eql) [.t 22,.i 1],.m 24 (.t 23),.y 25 (.fieldAddr 1) [.t 3] 24,.y 26 (.aj 1 false 1 false) [.t 25] 24,
 .y 27 (.len .sl) [.T 26] 24,.y 28 (.bin .eql) [.t 27,.i 8] 24,
 .o 29 .pick [.t 24,.t 28,.b false]] [20,21,22,23,24,25,26,27,28]) (.cond (.T 29) [] (.seq (.g [.m 30 (.t 0),
 .c 31 15 [.t 30,.i 4]] [30,31]) (.exit 0)) [] .skip)) (.seq (.r [.f 32 1 (.t 3),
 .o 33 (.aj 1 false 1 true) [.t 32],.m 34 (.t 0),.c 35 17 [.t 34],.o 36 (.lit 4 1 [.str [],.str [],.i 0,.i 0] [0]) [.t 35],
 .o 37 (.append 4 48) [.T 33,.T 36],.f 38 1 (.t 3),.n (.ag 1 1) [.t 38,.T 37]] (some []) [32,34,35,38]) (.g [.m 39 (.t 0),
 .c 40 18 [.t 39,.const (.str [59])]] [39,40])))))
def s16:aC:={ eL:=16,mode:=.lS,nparams:=1,aJ:=2,dc:=[],results:=[.box 2 0 3 true],body:=
 (.seq (.g [.o 2 (.aE 0 [.str [],.U,.i 0]) []] []) (.seq (.g [.m 4 (.t 0),.c 5 13 [.t 4],
 .o 6 (.field 3 1 false) [.t 5],.o 7 (.build [.str [],.U,.i 0] [(2,1)]) [.t 6],.o 3 (.aE 1 [.str [],.U,.i 0]) [],
 .n (.ag 1 3) [.t 3,.T 7]] [4,5,6]) (.seq (.g [.m 8 (.t 0),.c 9 38 [.t 8],.f 10 0 (.t 3),
 .n (.ag 1 1) [.t 10,.t 9]] [8,9,10]) (.seq (.g [.m 11 (.t 0),.c 12 18 [.t 11,.const (.str [123])]] [11,12]) (.seq (.block 0
 (.loop Pr)) (.seq (.g [.m 41 (.t 0),.c 42 18 [.t 41,.const (.str [125])]] [0,41,42]) (.seq (.g [
 .o 43 (.aj 1 true 3 false) [.t 3],.n (.ag 0 3) [.t 2,.T 43]] [3]) .ret))))))) }
def s17:aC:={ eL:=17,mode:=.lS,nparams:=1,aJ:=2,dc:=[],results:=[.box 2 0 4 true],body:=
 (.seq (.g [.o 2 (.aE 0 [.str [],.str [],.i 0,.i 0]) []] []) (.seq (.g [.m 4 (.t 0),.c 5 13 [.t 4],
 .o 6 (.field 3 1 false) [.t 5],.o 7 (.build [.str [],.str [],.i 0,.i 0] [(3,1)]) [.t 6],
 .o 3 (.aE 1 [.str [],.str [],.i 0,.i 0]) [],.n (.ag 1 4) [.t 3,.t 7]] [4,5,6,7]) (.seq (.g [.m 8 (.t 0),
 .c 9 38 [.t 8],.f 10 0 (.t 3),.n (.ag 1 1) [.t 10,.t 9]] [8,9,10]) (.seq (.g [.m 11 (.t 0),
 .c 12 18 [.t 11,.const (.str [58])]] [11,12]) (.seq (.g [.m 13 (.t 0),.c 14 39 [.t 13],.f 15 1 (.t 3),
 .n (.ag 1 2) [.t 15,.t 14]] [0,13,14,15]) (.seq (.g [.o 16 (.aj 1 true 4 false) [.t 3],.n (.ag 0 4) [.t 2,.t 16]] [3,16])
 .ret)))))) }
def s18:aC:={ eL:=18,mode:=.lS,nparams:=2,aJ:=0,dc:=[],results:=[],body:=
 (.seq (.seq (.g [.m 4 (.t 0),.m 5 (.t 1),.c 6 14 [.t 4,.t 5],.o 7 (.un .not) [.t 6]] [1,4,5,6]) (.cond (.T 7) [] (.seq
 (.g [.m 8 (.t 0),.c 9 15 [.t 8,.i 2]] [0,8,9]) .ret) [] .skip)) (.g [.m 10 (.t 0),
 .o 11 .nilCheck [.t 10],.f 12 1 (.T 11),.d 13 (.T 12),.o 14 (.bin .add) [.t 13,.i 1],
 .o 15 .nilCheck [.t 10],.f 16 1 (.T 15),.n (.store 1) [.T 16,.t 14]] [0,10,13,14])) }
def Pu:bG:=
 (.seq (.seq (.g [.m 13 (.t 0),.c 14 12 [.t 13],.m 15 (.t 14),.y 16 .move [.t 0] 15,
 .y 17 (.call 14) [.t 16,.const (.str [41])] 15,.y 18 (.un .not) [.t 17] 15,.o 19 .pick [.t 15,.t 18,.b false]] [13,14,15,16,17,18])
 (.cond (.T 19) [] .skip [] (.exit 0))) (.block 1 (.seq (.seq (.g [.m 20 (.t 0),.c 21 13 [.t 20],.o 22 (.field 0 1 false) [.t 21],
 .o 23 (.bin .eql) [.t 22,.i 1],.m 24 (.t 23),.y 25 (.fieldAddr 1) [.t 3] 24,.y 26 (.aj 1 false 1 false) [.t 25] 24,
 .y 27 (.len .sl) [.T 26] 24,.y 28 (.bin .eql) [.t 27,.i 6] 24,
 .o 29 .pick [.t 24,.t 28,.b false]] [20,21,22,23,24,25,26,27,28]) (.cond (.T 29) [] (.seq (.g [.m 30 (.t 0),
 .c 31 15 [.t 30,.i 4]] [30,31]) (.exit 0)) [] .skip)) (.seq (.r [.f 32 1 (.t 3),
 .o 33 (.aj 1 false 1 true) [.t 32],.m 34 (.t 0),.c 35 17 [.t 34],.o 36 (.lit 4 1 [.str [],.str [],.i 0,.i 0] [0]) [.t 35],
 .o 37 (.append 4 48) [.T 33,.T 36],.f 38 1 (.t 3),.n (.ag 1 1) [.t 38,.T 37]] (some []) [32,34,35,38]) (.seq (.g [.m 39 (.t 0),
 .c 40 14 [.t 39,.const (.str [41])],.o 41 (.un .not) [.t 40]] [39,40]) (.cond (.T 41) [] (.seq (.g [.m 42 (.t 0),
 .c 43 18 [.t 42,.const (.str [44])]] [42,43]) (.seq (.g [.m 44 (.t 0),.c 45 14 [.t 44,.const (.str [41])]] [44])
 (.cond (.T 45) [] (.g [.m 46 (.t 0),.c 47 15 [.t 46,.i 2]] [46,47]) [] .skip))) [] .skip))))))
def X2:aC:={ eL:=19,mode:=.lS,nparams:=1,aJ:=2,dc:=[],results:=[.box 2 0 7 true],body:=
 (.seq (.g [.o 2 (.aE 0 [.str [],.U,.bool false,.str [],.i 0,.U,.i 0]) []] []) (.seq (.g [.m 4 (.t 0),
 .c 5 13 [.t 4],.o 6 (.field 3 1 false) [.t 5],.o 7 (.build [.str [],.U,.bool false,.str [],.i 0,.U,.i 0] [(6,1)]) [.t 6],
 .o 3 (.aE 1 [.str [],.U,.bool false,.str [],.i 0,.U,.i 0]) [],.n (.ag 1 7) [.t 3,.T 7]] [4,5,6]) (.seq (.g [
 .m 8 (.t 0),.c 9 38 [.t 8],.f 10 0 (.t 3),.n (.ag 1 1) [.t 10,.t 9]] [8,9,10]) (.seq (.g [.m 11 (.t 0),
 .c 12 18 [.t 11,.const (.str [40])]] [11,12]) (.seq (.block 0 (.loop Pu)) (.seq (.g [.m 48 (.t 0),
 .c 49 18 [.t 48,.const (.str [41])]] [48,49]) (.seq (.seq (.g [.m 50 (.t 0),.c 51 14 [.t 50,.const (.str [58])]] [50])
 (.cond (.T 51) [] (.seq (.g [.m 52 (.t 0),.o 53 .nilCheck [.t 52],.f 54 1 (.T 53),.d 55 (.T 54),
 .o 56 (.bin .add) [.t 55,.i 1],.o 57 .nilCheck [.t 52],.f 58 1 (.T 57),.n (.store 1) [.T 58,.t 56]] [52,55,56]) (.seq
 (.g [.f 59 2 (.t 3),.n (.ag 1 1) [.t 59,.b true]] [59]) (.g [.m 60 (.t 0),.c 61 39 [.t 60],
 .f 62 3 (.t 3),.n (.ag 1 2) [.t 62,.t 61]] [60,61,62]))) [] .skip)) (.seq (.g [.m 63 (.t 0),.c 64 40 [.t 63],
 .f 65 5 (.t 3),.n (.ag 1 1) [.t 65,.T 64]] [0,63,65]) (.seq (.g [.o 66 (.aj 1 true 7 false) [.t 3],
 .n (.ag 0 7) [.t 2,.T 66]] [3]) .ret))))))))) }
def Pv:bG:=
 (.seq (.g [.o 29 (.bin .lss) [.t 28,.t 27]] []) (.seq (.cond (.T 29) [] .skip [26,27,28] (.exit 0)) (.seq (.block 1 (.seq (.g [
 .o 30 (.indexAddr 3) [.t 26,.t 28],.o 31 (.load true 3 false) [.T 30],.o 8 (.aE 5 [.str [],.U,.i 0]) [],
 .n (.ag 5 3) [.t 8,.T 31]] []) (.r [.m 32 (.t 6),.m 33 (.t 6),.o 34 .nilCheck [.t 33],.f 35 4 (.T 34),
 .o 36 (.load false 1 true) [.T 35],.f 37 0 (.t 8),.l 38 5 (.t 37),.o 39 (.lit 1 1 [.str []] [0]) [.t 38],
 .o 40 (.append 1 16) [.T 36,.T 39],.o 41 .nilCheck [.t 32],.f 42 4 (.T 41),.n (.store 1) [.T 42,.T 40]] (some []) [8,32,33,37,38])))
 (.g [.o 43 (.bin .add) [.t 28,.i 1],.m 28 (.t 43)] [43]))))
def Pw:bG:=
 (.seq (.g [.o 50 (.bin .lss) [.t 49,.t 48]] []) (.seq (.cond (.T 50) [] .skip [4,6,47,48,49] (.exit 2)) (.seq (.block 3 (.seq (.g [
 .m 51 (.t 49),.o 52 (.indexAddr 7) [.t 47,.t 49],.o 53 (.load true 7 false) [.T 52],
 .o 11 (.aE 7 [.str [],.U,.bool false,.str [],.i 0,.U,.i 0]) [],.m 10 (.t 51),.n (.ag 7 7) [.t 11,.T 53]] [51])
 (.seq (.r [.f 54 4 (.t 9),.o 55 (.aj 6 false 1 true) [.t 54],.m 56 (.t 6),.o 57 (.aj 7 true 7 false) [.t 11],
 .f 58 2 (.t 4),.l 59 3 (.t 58),.m 60 (.t 10),.o 61 (.indexAddr 6) [.T 59,.t 60],
 .o 62 (.load true 6 false) [.T 61],.c 63 42 [.t 56,.T 57,.T 62],.o 64 (.lit 3 1 [.U,.U,.i 0] [0]) [.T 63],
 .o 65 (.append 3 56) [.T 55,.T 64],.f 66 4 (.t 9),.n (.ag 6 1) [.t 66,.T 65]] (some []) [10,11,54,56,58,60,66]) (.seq (.g [
 .m 67 (.t 6),.c 68 43 [.t 67]] [67]) (.cond (.T 68) [4,9,47,48,49] (.seq (.r [
 .o 69 (.build [.U,.U,.U,.i 0,.U] []) [],.m 70 (.t 6),.o 71 .nilCheck [.t 70],.f 72 12 (.T 71),
 .o 73 (.load true 2 false) [.T 72],.n (.ag 1 5) [.t 2,.T 69],.n (.ag 2 2) [.t 3,.t 73]] (some []) [6,70,73]) .ret) [] .skip))))) (.g [
 .o 74 (.bin .add) [.t 49,.i 1],.m 49 (.t 74)] [74]))))
def s20:aC:={ eL:=20,mode:=.pure,nparams:=1,aJ:=8,dc:=[],results:=[.box 2 1 5 true,.box 3 2 2 true],body:=
 (.seq (.g [.o 1 (.dW 0 3) [.T 0],.o 2 (.aE 1 [.U,.U,.U,.i 0,.U]) [],
 .o 3 (.aE 2 [.i 0,.i 0]) []] []) (.seq (.g [.o 13 (.aj 0 true 3 false) [.t 1],.c 14 41 [.T 13],.m 12 (.T 14),
 .o 15 (.extract 0) [.t 12],.o 16 (.extract 1) [.T 12],.o 4 (.aE 3 [.U,.U,.U,.i 0]) [],.o 5 (.aE 4 [.i 0,.i 0]) [],
 .n (.ag 3 4) [.t 4,.T 15],.n (.ag 4 2) [.t 5,.t 16]] [16]) (.seq (.seq (.g [.f 17 0 (.t 5),
 .l 18 4 (.t 17),.o 19 (.bin .neq) [.t 18,.i 0]] [17,18]) (.cond (.T 19) [1,4] (.seq (.r [
 .o 20 (.build [.U,.U,.U,.i 0,.U] []) [],.o 21 (.aj 4 true 2 false) [.t 5],.n (.ag 1 5) [.t 2,.T 20],
 .n (.ag 2 2) [.t 3,.t 21]] (some []) [5,21]) .ret) [5] .skip)) (.seq (.g [.o 22 (.aj 3 true 4 false) [.t 4],
 .o 23 (.build [.U,.U,.U,.i 0,.U,.str [],.U,.bool false,.i 0,.i 0,.i 0,.U,.i 0,.i 0] [(0,4)]) [.T 22],
 .o 24 (.box 14) [.T 23],.m 6 (.t 24)] [24]) (.seq (.seq (.g [.f 25 0 (.t 1),.l 26 0 (.t 25),
 .o 27 (.len .sl) [.t 26],.m 28 (.i 0)] [25]) (.block 0 (.loop Pv))) (.seq (.g [.o 44 (.aj 3 true 4 false) [.t 4],
 .o 45 (.build [.U,.U,.U,.i 0,.U] [(0,4)]) [.T 44],.o 9 (.aE 6 [.U,.U,.U,.i 0,.U]) [],
 .n (.ag 6 5) [.t 9,.T 45]] []) (.seq (.seq (.g [.f 46 2 (.t 1),.l 47 0 (.t 46),.o 48 (.len .sl) [.t 47],
 .m 49 (.i 0)] [1,46]) (.block 2 (.loop Pw))) (.seq (.g [.o 75 (.aj 6 true 5 false) [.t 9],
 .o 76 (.build [.i 0,.i 0] []) [],.n (.ag 1 5) [.t 2,.T 75],.n (.ag 2 2) [.t 3,.t 76]] [9,76]) .ret)))))))) }
def Px:bG:=
 (.seq (.g [.o 40 (.bin .lss) [.t 39,.t 38]] []) (.seq (.cond (.T 40) [] .skip [38,39] (.exit 2)) (.seq (.block 3 (.seq (.g [
 .m 41 (.t 39),.m 8 (.t 41)] [41]) (.g [.m 42 (.t 7),.m 43 (.t 8),.o 44 (.indexAddr 1) [.T 42,.t 43],
 .n (.store 1) [.T 44,.b true]] [8,43]))) (.g [.o 45 (.bin .add) [.t 39,.i 1],.m 39 (.t 45)] [45]))))
def Py:bG:=
 (.seq (.g [.o 23 (.bin .lss) [.t 22,.t 21]] []) (.seq (.cond (.T 23) [] .skip [3,20,21,22] (.exit 0)) (.seq (.block 1 (.seq (.g [
 .m 24 (.t 22),.o 25 (.indexAddr 3) [.t 20,.t 22],.o 26 (.load true 3 false) [.T 25],.o 6 (.aE 4 [.U,.U,.i 0]) [],
 .m 5 (.t 24),.n (.ag 4 3) [.t 6,.T 26]] [24]) (.seq (.g [.f 27 0 (.t 6),.l 28 4 (.t 27),
 .o 29 (.len .sl) [.T 28],.o 30 (.rD 1 1 [.bool false] true) [.t 29,.t 29],.m 7 (.T 30)] [27,29]) (.seq (.seq (.g [
 .f 31 0 (.t 3),.f 32 2 (.t 31),.l 33 2 (.t 32),.m 34 (.t 5),.o 35 (.indexAddr 6) [.T 33,.t 34],
 .f 36 1 (.T 35),.d 37 (.T 36),.o 38 (.len .sl) [.T 37],.m 39 (.i 0)] [5,31,32,34]) (.block 2
 (.loop Px))) (.seq (.g [.o 46 (.build [.i 0,.i 0] []) [],.o 47 (.box 2) [.t 46],.m 9 (.t 47)] [46,47]) (.seq (.g [
 .m 48 (.t 9),.f 49 1 (.t 6),.l 50 4 (.t 49),.m 51 (.T 7),
 .c 52 44 [.t 48,.T 50,.T 51]] [6,48,49,52]) (.seq (.g [.m 53 (.t 9),.o 54 .nilCheck [.t 53],.f 55 0 (.T 54),
 .f 56 0 (.T 55),.d 57 (.T 56),.o 58 (.bin .neq) [.t 57,.i 0]] [53,57]) (.cond (.T 58) [3,20,21,22]
 (.seq (.g [.m 59 (.t 9),.o 60 .nilCheck [.t 59],.f 61 0 (.T 60),.o 62 (.load true 2 false) [.T 61],
 .n (.ag 1 2) [.t 2,.t 62]] [9,59,62]) .ret) [9] .skip)))))))) (.g [.o 63 (.bin .add) [.t 22,.i 1],
 .m 22 (.t 63)] [63]))))
def s21:aC:={ eL:=21,mode:=.pure,nparams:=1,aJ:=5,dc:=[],results:=[.box 2 1 2 true],body:=
 (.seq (.g [.o 1 (.dW 0 3) [.T 0],.o 2 (.aE 1 [.i 0,.i 0]) []] []) (.seq (.g [.o 11 (.aj 0 true 3 false) [.t 1],
 .c 12 20 [.T 11],.m 10 (.T 12),.o 13 (.extract 0) [.t 10],.o 14 (.extract 1) [.T 10],
 .o 3 (.aE 2 [.U,.U,.U,.i 0,.U]) [],.o 4 (.aE 3 [.i 0,.i 0]) [],.n (.ag 2 5) [.t 3,.T 13],
 .n (.ag 3 2) [.t 4,.t 14]] [1,14]) (.seq (.seq (.g [.f 15 0 (.t 4),.l 16 3 (.t 15),
 .o 17 (.bin .neq) [.t 16,.i 0]] [15,16]) (.cond (.T 17) [3] (.seq (.g [.o 18 (.aj 3 true 2 false) [.t 4],
 .n (.ag 1 2) [.t 2,.t 18]] [4,18]) .ret) [4] .skip)) (.seq (.seq (.g [.f 19 4 (.t 3),.l 20 2 (.t 19),
 .o 21 (.len .sl) [.t 20],.m 22 (.i 0)] [19]) (.block 0 (.loop Py))) (.seq (.g [
 .o 64 (.build [.i 0,.i 0] []) [],.n (.ag 1 2) [.t 2,.t 64]] [64]) .ret))))) }
def Pz:bG:=
 (.seq (.g [.o 27 (.bin .lss) [.t 26,.t 25]] []) (.seq (.cond (.T 27) [] .skip [24,25,26] (.exit 0)) (.seq (.block 1 (.seq (.g [
 .o 28 (.indexAddr 3) [.t 24,.t 26],.o 29 (.load true 3 false) [.T 28],.o 4 (.aE 1 [.str [],.U,.i 0]) [],
 .n (.ag 1 3) [.t 4,.T 29]] []) (.seq (.g [.f 30 1 (.t 4),.l 31 1 (.t 30),.o 32 (.len .sl) [.T 31],
 .o 33 (.bin .gtr) [.t 32,.i 8]] [4,30,32]) (.cond (.T 33) [1,24,25,26] (.seq (.g [.m 2 (.b true)] [])
 .ret) [] .skip)))) (.g [.o 34 (.bin .add) [.t 26,.i 1],.m 26 (.t 34)] [34]))))
def PA:bG:=
 (.seq (.g [.o 39 (.bin .lss) [.t 38,.t 37]] []) (.seq (.cond (.T 39) [] .skip [36,37,38] (.exit 2)) (.seq (.block 3 (.seq (.g [
 .o 40 (.indexAddr 7) [.t 36,.t 38],.o 41 (.load true 7 false) [.T 40],
 .o 6 (.aE 2 [.str [],.U,.bool false,.str [],.i 0,.U,.i 0]) [],.n (.ag 2 7) [.t 6,.T 41]] []) (.seq (.g [
 .f 42 1 (.t 6),.l 43 2 (.t 42),.o 44 (.len .sl) [.T 43],.o 45 (.bin .gtr) [.t 44,.i 6]] [6,42,44])
 (.cond (.T 45) [36,37,38] (.seq (.g [.m 2 (.b true)] []) .ret) [] .skip)))) (.g [
 .o 46 (.bin .add) [.t 38,.i 1],.m 38 (.t 46)] [46]))))
def s22:aC:={ eL:=22,mode:=.pure,nparams:=1,aJ:=3,dc:=[],results:=[.tmp 2 false],body:=
 (.seq (.g [.o 1 (.dW 0 3) [.T 0],.m 2 (.b false)] [2]) (.seq (.seq (.g [.f 7 0 (.t 1),
 .l 8 0 (.t 7),.o 9 (.len .sl) [.T 8],.o 10 (.bin .gtr) [.t 9,.i 12],.m 11 (.t 10),
 .z 12 (.fieldAddr 1) [.t 1] 11,.z 13 (.aj 0 false 1 false) [.t 12] 11,.z 14 (.len .sl) [.T 13] 11,.z 15 (.bin .gtr) [.t 14,.i 8] 11,
 .o 16 .pick [.t 11,.b true,.t 15],.m 17 (.t 16),.z 18 (.fieldAddr 2) [.t 1] 17,.z 19 (.aj 0 false 1 false) [.t 18] 17,
 .z 20 (.len .sl) [.T 19] 17,.z 21 (.bin .gtr) [.t 20,.i 16] 17,
 .o 22 .pick [.t 17,.b true,.t 21]] [7,9,10,11,12,13,14,15,16,17,18,19,20,21]) (.cond (.T 22) [1] (.seq (.g [
 .m 2 (.b true)] []) .ret) [] .skip)) (.seq (.seq (.g [.f 23 0 (.t 1),.l 24 0 (.t 23),
 .o 25 (.len .sl) [.t 24],.m 26 (.i 0)] [23]) (.block 0 (.loop Pz))) (.seq (.seq (.g [.f 35 2 (.t 1),
 .l 36 0 (.t 35),.o 37 (.len .sl) [.t 36],.m 38 (.i 0)] [1,35]) (.block 2 (.loop PA))) (.seq (.g [
 .m 2 (.b false)] []) .ret))))) }
def PC:bG:=
 (.seq (.g [.o 25 (.bin .lss) [.t 24,.t 23]] []) (.seq (.cond (.T 25) [] .skip [22,23,24] (.exit 0)) (.seq (.block 1 (.seq (.g [
 .o 26 (.indexAddr 4) [.t 22,.t 24],.o 27 (.load true 4 false) [.T 26],.o 7 (.aE 2 [.str [],.i 0,.i 0,.i 0]) [],
 .n (.ag 2 4) [.t 7,.t 27]] [27]) (.r [.m 28 (.t 0),.m 29 (.t 0),.o 30 .nilCheck [.t 29],.f 31 5 (.T 30),
 .f 32 1 (.T 31),.o 33 (.load false 1 true) [.T 32],.f 34 1 (.t 7),.o 35 (.aj 2 true 3 false) [.t 34],
 .o 36 (.lit 3 1 [.i 0,.i 0,.i 0] [0]) [.t 35],.o 37 (.append 3 24) [.T 33,.T 36],.o 38 .nilCheck [.t 28],.f 39 5 (.T 38),
 .f 40 1 (.T 39),.n (.store 1) [.T 40,.T 37]] (some []) [7,28,29,34,35]))) (.g [.o 41 (.bin .add) [.t 24,.i 1],
 .m 24 (.t 41)] [41]))))
def s23:aC:={ eL:=23,mode:=.CP,nparams:=3,aJ:=3,dc:=[],results:=[],body:=
 (.seq (.g [.o 4 (.dW 0 6) [.T 1],.o 5 (.dW 1 3) [.T 2]] []) (.seq (.g [.m 10 (.t 0),.f 11 1 (.t 4),
 .l 12 0 (.t 11),.o 13 (.len .sl) [.T 12],.f 14 2 (.t 4),.l 15 0 (.t 14),
 .f 16 3 (.t 4),.o 17 (.aj 0 true 3 false) [.t 16],
 .o 18 (.build [.i 0,.U,.bool false,.i 0,.i 0,.i 0,.U] [(0,1),(2,1),(3,3)]) [.t 13,.t 15,.t 17],.o 19 .nilCheck [.t 10],
 .f 20 5 (.T 19),.n (.store 7) [.T 20,.T 18]] [10,11,13,14,15,16,17]) (.seq (.seq (.g [.f 21 0 (.t 5),
 .l 22 1 (.t 21),.o 23 (.len .sl) [.t 22],.m 24 (.i 0)] [21]) (.block 0 (.loop PC))) (.seq (.g [
 .m 42 (.t 0),.f 43 1 (.t 5),.l 44 1 (.t 43),.c 45 45 [.t 42,.T 44]] [5,42,43,45]) (.seq (.g [
 .o 8 .move [.const (.i (-1))]] []) (.seq (.seq (.g [.f 46 2 (.t 4),.l 47 0 (.t 46)] [46])
 (.cond (.T 47) [8] (.seq (.g [.m 9 (.i 1)] []) (.seq (.seq (.g [.f 48 3 (.t 4),
 .o 49 (.aj 0 true 3 false) [.t 48],.c 50 46 [.t 49]] [48,49]) (.cond (.T 50) [9] (.g [.m 9 (.i 2)] []) []
 .skip)) (.seq (.g [.m 51 (.t 0),.f 52 3 (.t 4),.o 53 (.aj 0 true 3 false) [.t 52],.c 54 47 [.t 51,.t 53],
 .m 8 (.t 54)] [4,51,52,53,54]) (.g [.m 55 (.t 0),.m 56 (.t 9),.m 57 (.t 8),
 .o 58 (.build [.i 0,.i 0,.i 0,.i 0,.i 0,.U] [(0,1),(1,1)]) [.t 56,.t 57],
 .c 59 48 [.t 55,.T 58]] [9,55,56,57,59])))) [4] .skip)) (.seq (.g [.m 60 (.t 0),.m 61 (.t 8),
 .o 62 (.build [.i 0,.i 0,.i 0,.i 0,.i 0,.U] [(0,1),(1,1)]) [.i 18,.t 61],
 .c 63 48 [.t 60,.T 62]] [8,60,61,63]) (.seq (.vo 0 11) (.r [.m 64 (.t 0),.m 65 (.t 0),.o 66 .nilCheck [.t 65],
 .f 67 0 (.T 66),.f 68 2 (.T 67),.o 69 (.load false 1 true) [.T 68],.m 70 (.t 0),.o 71 .nilCheck [.t 70],
 .f 72 5 (.T 71),.o 73 (.load true 7 false) [.T 72],
 .o 74 (.lit 7 1 [.i 0,.U,.bool false,.i 0,.i 0,.i 0,.U] [0]) [.T 73],.o 75 (.append 7 88) [.T 69,.T 74],
 .o 76 .nilCheck [.t 64],.f 77 0 (.T 76),.f 78 2 (.T 77),.n (.store 1) [.T 78,.T 75]] (some [(9,5)]) [0,64,65,70]))))))))) }
def PI:bG:=
 (.seq (.seq (.g [.m 6 (.t 5),.m 7 (.t 1),.o 8 (.len .sl) [.T 7],.o 9 (.bin .lss) [.t 6,.t 8]] [6,8]) (.cond (.T 9) [] .skip [1,2,5]
 (.exit 0))) (.seq (.block 1 (.seq (.r [.o 12 (.aj 0 true 5 false) [.t 2],.m 13 (.t 1),.m 14 (.t 5),.o 15 (.indexAddr 3) [.T 13,.t 14],
 .o 16 (.load true 3 false) [.T 15],.c 17 33 [.T 12,.t 16],.o 18 (.un .not) [.t 17]] (some []) [14,16,17]) (.cond (.T 18) [1,2,5] (.seq (.g [
 .m 4 (.b false)] []) .ret) [] .skip))) (.g [.m 10 (.t 5),.o 11 (.bin .add) [.t 10,.i 1],
 .m 5 (.t 11)] [10,11])))
def s32:aC:={ eL:=32,mode:=.pure,nparams:=2,aJ:=1,dc:=[],results:=[.tmp 4 false],body:=
 (.seq (.g [.o 2 (.dW 0 5) [.T 0],.m 4 (.b false)] [4]) (.seq (.seq (.g [.m 5 (.i 0)] [])
 (.block 0 (.loop PI))) (.seq (.g [.m 4 (.b true)] []) .ret))) }
def Uj:aC:={ eL:=33,mode:=.pure,nparams:=2,aJ:=2,dc:=[],results:=[.tmp 4 false],body:=
 (.seq (.g [.o 2 (.dW 0 5) [.T 0],.o 3 (.dW 1 3) [.t 1],.m 4 (.b false)] [1,4]) (.seq (.seq (.g [
 .f 5 2 (.t 3),.l 6 1 (.t 5),.o 7 (.bin .lss) [.t 6,.i 0],.m 8 (.t 7),
 .z 9 (.fieldAddr 2) [.t 3] 8,.z 10 (.aj 1 false 1 false) [.t 9] 8,.z 11 (.bin .gtr) [.t 10,.i 3] 8,
 .o 12 .pick [.t 8,.b true,.t 11]] [5,6,7,8,9,10,11]) (.cond (.T 12) [2,3] (.seq (.g [.m 4 (.b false)] [])
 .ret) [] .skip)) (.seq (.seq (.g [.f 13 0 (.t 3),.l 14 1 (.t 13)] [13]) (.block 0 (.seq (.seq (.g [
 .o 16 (.bin .eql) [.t 14,.i 1],.m 15 (.t 16)] [16]) (.cond (.t 15) [] .skip [15] (.g [
 .o 17 (.bin .eql) [.t 14,.i 2],.m 15 (.t 17)] [17]))) (.cond (.T 15) [2,14] (.seq (.g [.f 18 1 (.t 3),
 .l 19 1 (.t 18),.o 20 (.bin .eql) [.t 19,.i 0],.m 4 (.t 20)] [3,18,19,20]) .ret) [] (.seq (.g [
 .o 22 (.bin .eql) [.t 14,.i 3],.m 21 (.t 22)] [14,22]) (.cond (.T 21) [] (.seq (.g [.f 23 1 (.t 3),
 .l 24 1 (.t 23),.o 25 (.bin .geq) [.t 24,.i 0],.m 26 (.t 25),.y 27 (.fieldAddr 1) [.t 3] 26,
 .y 28 (.aj 1 false 1 false) [.t 27] 26,.y 29 (.fieldAddr 0) [.t 2] 26,.y 30 (.aj 0 false 1 false) [.t 29] 26,.y 31 (.len .sl) [.T 30] 26,
 .y 32 (.bin .lss) [.t 28,.t 31] 26,.o 33 .pick [.t 26,.t 32,.b false],.m 4 (.t 33)] [2,3,23,24,25,26,27,28,29,30,31,32,33])
 .ret) [2,3] .skip)))))) (.seq (.g [.m 4 (.b false)] []) .ret)))) }
def s34:aC:={ eL:=34,mode:=.pure,nparams:=1,aJ:=1,dc:=[],results:=[.tmp 2 false],body:=
 (.seq (.g [.o 1 (.dW 0 3) [.t 0],.m 2 (.b false)] [0,2]) (.seq (.g [.f 3 0 (.t 1),
 .l 4 0 (.t 3),.o 5 (.bin .eql) [.t 4,.i 3],.m 6 (.t 5),.z 7 (.fieldAddr 2) [.t 1] 6,
 .z 8 (.aj 0 false 1 false) [.t 7] 6,.z 9 (.bin .gtr) [.t 8,.i 0] 6,.o 10 .pick [.t 6,.b true,.t 9],
 .m 2 (.t 10)] [1,3,4,5,6,7,8,9,10]) .ret)) }
def k6:aC:={ eL:=35,mode:=.pure,nparams:=3,aJ:=7,dc:=[],results:=[.tmp 6 false],body:=
 (.seq (.g [.o 3 (.dW 0 5) [.T 0],.o 5 (.dW 1 6) [.T 2],.m 6 (.b false)] [6]) (.seq (.seq (.g [.m 12 (.t 1),
 .o 13 (.bin .lss) [.t 12,.i 0],.m 14 (.t 13),.z 15 .move [.t 1] 14,.z 16 (.fieldAddr 2) [.t 3] 14,
 .z 17 (.aj 0 false 1 false) [.t 16] 14,.z 18 (.len .sl) [.T 17] 14,.z 19 (.bin .geq) [.t 15,.t 18] 14,.o 20 .pick [.t 14,.b true,.t 19],
 .m 21 (.t 20),.z 22 (.aj 1 true 6 false) [.t 5] 21,.z 23 (.call 57) [.T 22] 21,.z 24 (.un .not) [.t 23] 21,
 .o 25 .pick [.t 21,.b true,.t 24]] [12,13,14,15,16,17,18,19,20,21,22,23,24]) (.cond (.T 25) [1,3,5] (.seq (.g [
 .m 6 (.b false)] []) .ret) [] .skip)) (.seq (.g [.f 26 2 (.t 3),.l 27 0 (.t 26),
 .m 28 (.t 1),.o 29 (.indexAddr 7) [.T 27,.t 28],.o 30 (.load true 7 false) [.T 29],
 .o 7 (.aE 2 [.i 0,.U,.bool false,.i 0,.i 0,.i 0,.U]) [],.n (.ag 2 7) [.t 7,.T 30]] [26,28]) (.seq (.g [
 .o 31 (.build [.i 0,.i 0,.i 0] []) [],.o 8 (.aE 3 [.i 0,.i 0,.i 0]) [],
 .n (.ag 3 3) [.t 8,.t 31]] [31]) (.seq (.r [.o 32 (.aj 2 true 7 false) [.t 7],.f 33 1 (.t 5),
 .l 34 1 (.t 33),.c 35 58 [.T 32,.t 34],.o 36 (.aj 2 true 7 false) [.t 7],.f 37 2 (.t 5),
 .l 38 1 (.t 37),.c 39 58 [.T 36,.t 38],.o 40 (.aj 2 true 7 false) [.t 7],.f 41 3 (.t 5),
 .l 42 1 (.t 41),.c 43 58 [.T 40,.t 42],.o 9 (.aE 4 [.i 0,.i 0,.i 0]) [],
 .o 10 (.aE 5 [.i 0,.i 0,.i 0]) [],.o 11 (.aE 6 [.i 0,.i 0,.i 0]) [],.n (.ag 4 3) [.t 9,.t 35],
 .n (.ag 5 3) [.t 10,.t 39],.n (.ag 6 3) [.t 11,.t 43]] (some []) [33,34,35,37,38,39,41,42,43]) (.seq (.seq (.g [.f 44 0 (.t 5),
 .l 45 1 (.t 44)] [44]) (.block 0 (.seq (.g [.o 47 (.bin .eql) [.t 45,.i 1],.m 46 (.t 47)] [47])
 (.cond (.T 46) [1,3,7,8,10,11,45] (.seq (.r [.o 48 (.aj 4 true 3 false) [.t 9],.c 49 59 [],
 .o 50 (.eqv (.flat [.int,.int,.int]) false) [.t 48,.t 49],.m 51 (.t 50),.z 52 (.aj 4 true 3 false) [.t 9] 51,.z 53 (.call 60) [] 51,
 .z 54 (.eqv (.flat [.int,.int,.int]) false) [.t 52,.t 53] 51,.z 55 .move [.t 54] 51,.y 56 (.fieldAddr 4) [.t 5] 55,
 .y 57 (.aj 1 false 1 false) [.t 56] 55,.y 58 (.bin .eql) [.t 57,.i 0] 55,.y 59 .move [.t 58] 55,.z 60 (.fieldAddr 4) [.t 5] 59,
 .z 61 (.aj 1 false 1 false) [.t 60] 59,.z 62 (.bin .eql) [.t 61,.i 1] 59,.y 63 .pick [.t 59,.b true,.t 62] 55,
 .z 64 .pick [.t 55,.t 63,.b false] 51,.o 65 .pick [.t 51,.b true,.t 64],
 .m 6 (.t 65)] (some []) [5,9,48,49,50,51,52,53,54,55,56,57,58,59,60,61,62,63,64,65]) .ret) [] (.seq (.g [
 .o 67 (.bin .eql) [.t 45,.i 2],.m 66 (.t 67)] [67]) (.cond (.T 66) [1,3,5,7,10,11,45] (.seq (.g [
 .o 68 (.aj 4 true 3 false) [.t 9],.o 69 (.aj 3 true 3 false) [.t 8],.o 70 (.eqv (.flat [.int,.int,.int]) true) [.t 68,.t 69],.m 71 (.t 70),
 .y 72 (.aj 4 true 3 false) [.t 9] 71,.y 73 (.call 34) [.t 72] 71,.o 74 .pick [.t 71,.t 73,.b false],
 .m 6 (.t 74)] [8,9,68,69,70,71,72,73,74]) .ret) [] (.seq (.g [.o 76 (.bin .eql) [.t 45,.i 3],.m 75 (.t 76)] [76])
 (.cond (.T 75) [1,3,5,7,11,45] (.seq (.g [.o 77 (.aj 4 true 3 false) [.t 9],.o 78 (.aj 3 true 3 false) [.t 8],
 .o 79 (.eqv (.flat [.int,.int,.int]) true) [.t 77,.t 78],.m 80 (.t 79),.y 81 (.aj 4 true 3 false) [.t 9] 80,
 .y 82 (.aj 5 true 3 false) [.t 10] 80,.y 83 (.eqv (.flat [.int,.int,.int]) false) [.t 81,.t 82] 80,.o 84 .pick [.t 80,.t 83,.b false],
 .m 6 (.t 84)] [8,9,10,77,78,79,80,81,82,83,84]) .ret) [] (.seq (.g [.o 86 (.bin .eql) [.t 45,.i 4],
 .m 85 (.t 86)] [86]) (.cond (.T 85) [1,3,7,8,45] (.seq (.g [.f 87 4 (.t 5),.l 88 1 (.t 87),
 .o 89 (.aj 4 true 3 false) [.t 9],.o 90 (.aj 5 true 3 false) [.t 10],.o 91 (.aj 6 true 3 false) [.t 11],
 .c 92 61 [.t 88,.t 89,.t 90,.t 91],.m 6 (.t 92)] [5,9,10,11,87,88,89,90,91,92]) .ret) [] (.seq (.g [
 .o 94 (.bin .eql) [.t 45,.i 5],.m 93 (.t 94)] [94]) (.cond (.T 93) [1,3,7,8,11,45] (.seq (.r [.f 95 4 (.t 5),
 .l 96 1 (.t 95),.o 97 (.bin .eql) [.t 96,.i 12],.m 98 (.t 97),.y 99 (.aj 4 true 3 false) [.t 9] 98,
 .y 100 (.call 59) [] 98,.y 101 (.eqv (.flat [.int,.int,.int]) false) [.t 99,.t 100] 98,.o 102 .pick [.t 98,.t 101,.b false],
 .m 103 (.t 102),.y 104 (.aj 5 true 3 false) [.t 10] 103,.y 105 (.call 59) [] 103,.y 106 (.eqv (.flat [.int,.int,.int]) false) [.t 104,.t 105] 103,
 .o 107 .pick [.t 103,.t 106,.b false],.m 108 (.t 107),.z 109 (.fieldAddr 4) [.t 5] 108,.z 110 (.aj 1 false 1 false) [.t 109] 108,
 .z 111 (.bin .eql) [.t 110,.i 13] 108,.z 112 .move [.t 111] 108,.y 113 (.aj 4 true 3 false) [.t 9] 112,.y 114 (.call 60) [] 112,
 .y 115 (.eqv (.flat [.int,.int,.int]) false) [.t 113,.t 114] 112,.z 116 .pick [.t 112,.t 115,.b false] 108,.z 117 .move [.t 116] 108,
 .y 118 (.aj 5 true 3 false) [.t 10] 117,.y 119 (.call 60) [] 117,.y 120 (.eqv (.flat [.int,.int,.int]) false) [.t 118,.t 119] 117,
 .z 121 .pick [.t 117,.t 120,.b false] 108,.o 122 .pick [.t 108,.b true,.t 121],
 .m 6 (.t 122)] (some []) [5,9,10,95,96,97,98,99,100,101,102,103,104,105,106,107,108,109,110,111,112,113,114,115,116,117,118,119,120,121,122]) .ret) []
 (.seq (.g [.o 124 (.bin .eql) [.t 45,.i 6],.m 123 (.t 124)] [124]) (.cond (.T 123) [1,7,11,45] (.seq (.r [
 .o 125 (.aj 4 true 3 false) [.t 9],.o 126 (.aj 3 true 3 false) [.t 8],.o 127 (.eqv (.flat [.int,.int,.int]) true) [.t 125,.t 126],
 .m 128 (.t 127),.y 129 (.aj 4 true 3 false) [.t 9] 128,.y 130 (.aj 0 true 5 false) [.t 3] 128,.y 131 (.aj 5 true 3 false) [.t 10] 128,
 .y 132 (.fieldAddr 3) [.t 5] 128,.y 133 (.aj 1 false 1 false) [.t 132] 128,.y 134 (.call 62) [.T 130,.t 131,.t 133] 128,
 .y 135 (.eqv (.flat [.int,.int,.int]) false) [.t 129,.t 134] 128,.o 136 .pick [.t 128,.t 135,.b false],
 .m 6 (.t 136)] (some []) [3,5,8,9,10,125,126,127,128,129,130,131,132,133,134,135,136]) .ret) [] (.seq (.g [
 .o 138 (.bin .eql) [.t 45,.i 7],.m 137 (.t 138)] [138]) (.cond (.T 137) [1,7,11,45] (.seq (.r [
 .o 139 (.aj 5 true 3 false) [.t 10],.o 140 (.aj 3 true 3 false) [.t 8],.o 141 (.eqv (.flat [.int,.int,.int]) true) [.t 139,.t 140],
 .m 142 (.t 141),.y 143 (.aj 5 true 3 false) [.t 10] 142,.y 144 (.aj 0 true 5 false) [.t 3] 142,.y 145 (.aj 4 true 3 false) [.t 9] 142,
 .y 146 (.fieldAddr 3) [.t 5] 142,.y 147 (.aj 1 false 1 false) [.t 146] 142,.y 148 (.call 62) [.T 144,.t 145,.t 147] 142,
 .y 149 (.eqv (.flat [.int,.int,.int]) false) [.t 143,.t 148] 142,.o 150 .pick [.t 142,.t 149,.b false],
 .m 6 (.t 150)] (some []) [3,5,8,9,10,139,140,141,142,143,144,145,146,147,148,149,150]) .ret) [] (.seq (.g [
 .o 152 (.bin .eql) [.t 45,.i 8],.m 151 (.t 152)] [152]) (.cond (.T 151) [1,3,5,7,45] (.seq (.r [
 .o 153 (.aj 4 true 3 false) [.t 9],.o 154 (.aj 3 true 3 false) [.t 8],.o 155 (.eqv (.flat [.int,.int,.int]) true) [.t 153,.t 154],
 .m 156 (.t 155),.y 157 (.fieldAddr 2) [.t 10] 156,.y 158 (.aj 5 false 1 false) [.t 157] 156,.y 159 (.bin .gtr) [.t 158,.i 0] 156,
 .o 160 .pick [.t 156,.t 159,.b false],.m 161 (.t 160),.y 162 (.aj 6 true 3 false) [.t 11] 161,.y 163 (.call 59) [] 161,
 .y 164 (.eqv (.flat [.int,.int,.int]) false) [.t 162,.t 163] 161,.o 165 .pick [.t 161,.t 164,.b false],.m 166 (.t 165),
 .y 167 (.aj 4 true 3 false) [.t 9] 166,.y 168 (.aj 5 true 3 false) [.t 10] 166,.y 169 (.call 63) [.t 168] 166,
 .y 170 (.eqv (.flat [.int,.int,.int]) false) [.t 167,.t 169] 166,.o 171 .pick [.t 166,.t 170,.b false],
 .m 6 (.t 171)] (some []) [8,9,10,11,153,154,155,156,157,158,159,160,161,162,163,164,165,166,167,168,169,170,171]) .ret) [] (.seq (.g [
 .o 173 (.bin .eql) [.t 45,.i 9],.m 172 (.t 173)] [173]) (.cond (.T 172) [1,3,5,7,45] (.seq (.r [
 .o 174 (.aj 6 true 3 false) [.t 11],.o 175 (.aj 3 true 3 false) [.t 8],.o 176 (.eqv (.flat [.int,.int,.int]) true) [.t 174,.t 175],
 .m 177 (.t 176),.y 178 (.fieldAddr 2) [.t 9] 177,.y 179 (.aj 4 false 1 false) [.t 178] 177,.y 180 (.bin .gtr) [.t 179,.i 0] 177,
 .o 181 .pick [.t 177,.t 180,.b false],.m 182 (.t 181),.y 183 (.aj 5 true 3 false) [.t 10] 182,.y 184 (.call 59) [] 182,
 .y 185 (.eqv (.flat [.int,.int,.int]) false) [.t 183,.t 184] 182,.o 186 .pick [.t 182,.t 185,.b false],.m 187 (.t 186),
 .y 188 (.aj 6 true 3 false) [.t 11] 187,.y 189 (.aj 4 true 3 false) [.t 9] 187,.y 190 (.call 63) [.t 189] 187,
 .y 191 (.eqv (.flat [.int,.int,.int]) false) [.t 188,.t 190] 187,.o 192 .pick [.t 187,.t 191,.b false],
 .m 6 (.t 192)] (some []) [8,9,10,11,174,175,176,177,178,179,180,181,182,183,184,185,186,187,188,189,190,191,192]) .ret) [11] (.seq (.g [
 .o 194 (.bin .eql) [.t 45,.i 10],.m 193 (.t 194)] [194]) (.cond (.T 193) [1,3,5,7,8,45] (.seq (.r [
 .o 195 (.aj 4 true 3 false) [.t 9],.c 196 59 [],.o 197 (.eqv (.flat [.int,.int,.int]) false) [.t 195,.t 196],.m 198 (.t 197),
 .y 199 (.fieldAddr 2) [.t 10] 198,.y 200 (.aj 5 false 1 false) [.t 199] 198,.y 201 (.bin .gtr) [.t 200,.i 0] 198,
 .o 202 .pick [.t 198,.t 201,.b false],.m 6 (.t 202)] (some []) [9,10,195,196,197,198,199,200,201,202]) .ret) [] (.seq (.g [
 .o 204 (.bin .eql) [.t 45,.i 11],.m 203 (.t 204)] [204]) (.cond (.T 203) [7,10,45] (.seq (.g [
 .o 205 (.aj 4 true 3 false) [.t 9],.o 206 (.aj 3 true 3 false) [.t 8],.o 207 (.eqv (.flat [.int,.int,.int]) true) [.t 205,.t 206],
 .m 208 (.t 207),.y 209 (.fieldAddr 0) [.t 9] 208,.y 210 (.aj 4 false 1 false) [.t 209] 208,.y 211 (.bin .eql) [.t 210,.i 3] 208,
 .o 212 .pick [.t 208,.t 211,.b false],.m 213 (.t 212),.y 214 (.fieldAddr 2) [.t 9] 213,.y 215 (.aj 4 false 1 false) [.t 214] 213,
 .y 216 (.bin .eql) [.t 215,.i 0] 213,.o 217 .pick [.t 213,.t 216,.b false],.m 218 (.t 217),
 .y 219 (.aj 0 true 5 false) [.t 3] 218,.y 220 .move [.t 1] 218,.y 221 (.fieldAddr 4) [.t 5] 218,.y 222 (.aj 1 false 1 false) [.t 221] 218,
 .y 223 (.aj 4 true 3 false) [.t 9] 218,.y 224 (.call 64) [.T 219,.t 220,.t 222,.t 223] 218,.o 225 .pick [.t 218,.t 224,.b false],
 .m 6 (.t 225)] [1,3,5,8,9,205,206,207,208,209,210,211,212,213,214,215,216,217,218,219,220,221,222,223,224,225]) .ret) [] (.seq (.g [
 .o 227 (.bin .eql) [.t 45,.i 12],.m 226 (.t 227)] [227]) (.cond (.T 226) [7,8,45] (.seq (.r [.f 228 2 (.t 9),
 .l 229 4 (.t 228),.o 230 (.bin .gtr) [.t 229,.i 0],.m 231 (.t 230),.y 232 (.aj 5 true 3 false) [.t 10] 231,
 .y 233 (.call 59) [] 231,.y 234 (.eqv (.flat [.int,.int,.int]) false) [.t 232,.t 233] 231,.o 235 .pick [.t 231,.t 234,.b false],
 .m 236 (.t 235),.y 237 (.aj 0 true 5 false) [.t 3] 236,.y 238 .move [.t 1] 236,.y 239 (.fieldAddr 4) [.t 5] 236,
 .y 240 (.aj 1 false 1 false) [.t 239] 236,.y 241 (.aj 4 true 3 false) [.t 9] 236,.y 242 (.call 64) [.T 237,.t 238,.t 240,.t 241] 236,
 .o 243 .pick [.t 236,.t 242,.b false],
 .m 6 (.t 243)] (some []) [1,3,5,9,10,228,229,230,231,232,233,234,235,236,237,238,239,240,241,242,243]) .ret) [1,10] (.seq (.g [
 .o 245 (.bin .eql) [.t 45,.i 13],.m 244 (.t 245)] [245]) (.cond (.T 244) [8,9,45] (.seq (.g [
 .o 246 (.aj 0 true 5 false) [.t 3],.o 247 (.aj 2 true 7 false) [.t 7],.o 248 (.aj 1 true 6 false) [.t 5],.c 249 65 [.T 246,.T 247,.T 248],
 .m 6 (.t 249)] [3,5,7,249]) .ret) [] (.seq (.seq (.g [.o 251 (.bin .eql) [.t 45,.i 14],.m 250 (.t 251)] [251])
 (.cond (.t 250) [] .skip [250] (.g [.o 252 (.bin .eql) [.t 45,.i 15],.m 250 (.t 252)] [252]))) (.cond (.T 250) [3,5,7,8,45]
 (.seq (.r [.o 253 (.aj 4 true 3 false) [.t 9],.c 254 59 [],.o 255 (.eqv (.flat [.int,.int,.int]) false) [.t 253,.t 254],
 .m 6 (.t 255)] (some []) [9,253,254,255]) .ret) [] (.seq (.g [.o 257 (.bin .eql) [.t 45,.i 16],.m 256 (.t 257)] [257])
 (.cond (.T 256) [3,8,9,45] (.seq (.g [.f 258 4 (.t 5),.l 259 1 (.t 258),
 .o 260 (.bin .geq) [.t 259,.i 0],.m 261 (.t 260),.y 262 (.fieldAddr 4) [.t 5] 261,.y 263 (.aj 1 false 1 false) [.t 262] 261,
 .y 264 (.fieldAddr 6) [.t 7] 261,.y 265 (.aj 2 false 1 false) [.t 264] 261,.y 266 (.len .sl) [.T 265] 261,.y 267 (.bin .lss) [.t 263,.t 266] 261,
 .o 268 .pick [.t 261,.t 267,.b false],.m 6 (.t 268)] [5,7,258,259,260,261,262,263,264,265,266,267,268]) .ret) [] (.seq (.g [
 .o 270 (.bin .eql) [.t 45,.i 17],.m 269 (.t 270)] [270]) (.cond (.T 269) [3,8,45] (.seq (.r [
 .o 271 (.aj 4 true 3 false) [.t 9],.c 272 60 [],.o 273 (.eqv (.flat [.int,.int,.int]) false) [.t 271,.t 272],.m 274 (.t 273),
 .y 275 (.fieldAddr 4) [.t 5] 274,.y 276 (.aj 1 false 1 false) [.t 275] 274,.y 277 (.bin .geq) [.t 276,.i 0] 274,
 .o 278 .pick [.t 274,.t 277,.b false],.m 279 (.t 278),.y 280 (.fieldAddr 4) [.t 5] 279,.y 281 (.aj 1 false 1 false) [.t 280] 279,
 .y 282 (.fieldAddr 6) [.t 7] 279,.y 283 (.aj 2 false 1 false) [.t 282] 279,.y 284 (.len .sl) [.T 283] 279,.y 285 (.bin .lss) [.t 281,.t 284] 279,
 .o 286 .pick [.t 279,.t 285,.b false],.m 287 (.t 286),.y 288 (.fieldAddr 3) [.t 5] 287,.y 289 (.aj 1 false 1 false) [.t 288] 287,
 .y 290 (.bin .geq) [.t 289,.i 0] 287,.o 291 .pick [.t 287,.t 290,.b false],.m 292 (.t 291),
 .y 293 (.fieldAddr 3) [.t 5] 292,.y 294 (.aj 1 false 1 false) [.t 293] 292,.y 295 (.fieldAddr 6) [.t 7] 292,
 .y 296 (.aj 2 false 1 false) [.t 295] 292,.y 297 (.len .sl) [.T 296] 292,.y 298 (.bin .lss) [.t 294,.t 297] 292,
 .o 299 .pick [.t 292,.t 298,.b false],
 .m 6 (.t 299)] (some []) [5,7,9,271,272,273,274,275,276,277,278,279,280,281,282,283,284,285,286,287,288,289,290,291,292,293,294,295,296,297,298,299])
 .ret) [] (.seq (.g [.o 301 (.bin .eql) [.t 45,.i 18],.m 300 (.t 301)] [301]) (.cond (.T 300) [3,45] (.seq (.seq (.g [
 .f 302 2 (.t 7),.l 303 2 (.t 302),.o 304 (.un .not) [.t 303]] [302,303]) (.cond (.T 304) [7,8,9] (.seq (.g [
 .f 305 1 (.t 5),.l 306 1 (.t 305),.o 307 (.bin .eql) [.t 306,.const (.i (-1))],
 .m 6 (.t 307)] [5,305,306,307]) .ret) [5] .skip)) (.seq (.g [.o 308 (.aj 4 true 3 false) [.t 9],.o 309 (.aj 3 true 3 false) [.t 8],
 .o 310 (.eqv (.flat [.int,.int,.int]) true) [.t 308,.t 309],.m 311 (.t 310),.y 312 (.aj 4 true 3 false) [.t 9] 311,
 .y 313 (.fieldAddr 3) [.t 7] 311,.y 314 (.aj 2 true 3 false) [.t 313] 311,.y 315 (.eqv (.flat [.int,.int,.int]) false) [.t 312,.t 314] 311,
 .o 316 .pick [.t 311,.t 315,.b false],.m 6 (.t 316)] [7,8,9,308,309,310,311,312,313,314,315,316]) .ret)) [7] (.seq (.seq (.g [
 .o 318 (.bin .eql) [.t 45,.i 19],.m 317 (.t 318)] [318]) (.cond (.t 317) [45] .skip [317] (.g [
 .o 319 (.bin .eql) [.t 45,.i 20],.m 317 (.t 319)] [45,319]))) (.cond (.T 317) [] (.seq (.r [
 .o 320 (.aj 4 true 3 false) [.t 9],.o 321 (.aj 3 true 3 false) [.t 8],.o 322 (.eqv (.flat [.int,.int,.int]) true) [.t 320,.t 321],
 .m 323 (.t 322),.y 324 (.fieldAddr 4) [.t 5] 323,.y 325 (.aj 1 false 1 false) [.t 324] 323,.y 326 (.bin .geq) [.t 325,.i 0] 323,
 .o 327 .pick [.t 323,.t 326,.b false],.m 328 (.t 327),.y 329 (.fieldAddr 4) [.t 5] 328,.y 330 (.aj 1 false 1 false) [.t 329] 328,
 .y 331 (.fieldAddr 1) [.t 3] 328,.y 332 (.aj 0 false 1 false) [.t 331] 328,.y 333 (.len .sl) [.T 332] 328,.y 334 (.bin .lss) [.t 330,.t 333] 328,
 .o 335 .pick [.t 328,.t 334,.b false],.m 336 (.t 335),.y 337 (.aj 4 true 3 false) [.t 9] 336,.y 338 (.fieldAddr 1) [.t 3] 336,
 .y 339 (.aj 0 false 1 false) [.t 338] 336,.y 340 (.fieldAddr 4) [.t 5] 336,.y 341 (.aj 1 false 1 false) [.t 340] 336,
 .y 342 (.indexAddr 3) [.T 339,.t 341] 336,.y 343 (.load true 3 false) [.T 342] 336,.y 344 (.eqv (.flat [.int,.int,.int]) false) [.t 337,.t 343] 336,
 .o 345 .pick [.t 336,.t 344,.b false],
 .m 6 (.t 345)] (some []) [3,5,8,9,320,321,322,323,324,325,326,327,328,329,330,331,332,333,334,335,336,337,338,339,340,341,342,343,344,345])
 .ret) [3,5,8,9] .skip)))))))))))))))))))))))))))))))))))))) (.seq (.g [.m 6 (.b false)] []) .ret))))))) }
def PJ:bG:=
 (.seq (.seq (.g [.m 49 (.t 1),.m 50 (.t 0),.o 51 (.len .str) [.t 50],.o 52 (.bin .lss) [.t 49,.t 51],.m 53 (.t 52),
 .y 54 .move [.t 0] 53,.y 55 .move [.t 1] 53,.y 56 .index [.t 54,.t 55] 53,.y 57 (.bin .neq) [.t 56,.const (.int .u8 10)] 53,
 .o 58 .pick [.t 53,.t 57,.b false]] [49,50,51,52,53,54,55,56,57]) (.cond (.T 58) [] .skip [] (.exit 3))) (.block 4 (.g [
 .m 59 (.t 1),.o 60 (.bin .add) [.t 59,.i 1],.m 1 (.t 60)] [59,60])))
def PK:bG:=
 (.seq (.seq (.g [.m 5 (.t 1),.m 6 (.t 0),.o 7 (.len .str) [.t 6],.o 8 (.bin .lss) [.t 5,.t 7]] [5,6,7]) (.cond (.T 8) [] .skip [0]
 (.exit 0))) (.block 1 (.block 2 (.seq (.g [.m 11 (.t 0),.m 12 (.t 1),.o 13 .index [.t 11,.t 12],
 .o 14 (.bin .eql) [.t 13,.const (.int .u8 32)],.m 15 (.t 14),.z 16 .move [.t 0] 15,.z 17 .move [.t 1] 15,.z 18 .index [.t 16,.t 17] 15,
 .z 19 (.bin .eql) [.t 18,.const (.int .u8 9)] 15,.o 20 .pick [.t 15,.b true,.t 19],.m 21 (.t 20),.z 22 .move [.t 0] 21,
 .z 23 .move [.t 1] 21,.z 24 .index [.t 22,.t 23] 21,.z 25 (.bin .eql) [.t 24,.const (.int .u8 10)] 21,.o 26 .pick [.t 21,.b true,.t 25],
 .m 27 (.t 26),.z 28 .move [.t 0] 27,.z 29 .move [.t 1] 27,.z 30 .index [.t 28,.t 29] 27,.z 31 (.bin .eql) [.t 30,.const (.int .u8 13)] 27,
 .o 32 .pick [.t 27,.b true,.t 31],.m 10 (.t 32)] [11,12,13,14,15,16,17,18,19,20,21,22,23,24,25,26,27,28,29,30,31,32])
 (.cond (.T 10) [] (.g [.m 33 (.t 1),.o 34 (.bin .add) [.t 33,.i 1],.m 1 (.t 34)] [33,34]) [] (.seq (.g [
 .m 36 (.t 0),.o 37 (.len .str) [.t 36],.m 38 (.t 1),.o 39 (.bin .sub) [.t 37,.t 38],.o 40 (.bin .geq) [.t 39,.i 2],
 .m 41 (.t 40),.y 42 .move [.t 0] 41,.y 43 .move [.t 1] 41,.y 44 .move [.t 1] 41,.y 45 (.bin .add) [.t 44,.i 2] 41,
 .y 46 (.slice true true true false 0) [.t 42,.t 43,.t 45] 41,.y 47 (.bin .eql) [.t 46,.const (.str [47,47])] 41,
 .o 48 .pick [.t 41,.t 47,.b false],.m 35 (.t 48)] [36,37,38,39,40,41,42,43,44,45,46,47,48]) (.cond (.T 35) [] (.block 3
 (.loop PJ)) [0] (.seq (.g [.m 9 (.t 1),.m 4 (.t 9)] [1,9]) .ret))))))))
def s36:aC:={ eL:=36,mode:=.pure,nparams:=2,aJ:=0,dc:=[],results:=[.tmp 4 false],body:=
 (.seq (.g [.m 4 (.i 0)] [4]) (.seq (.block 0 (.loop PK)) (.seq (.g [.m 61 (.t 1),
 .m 4 (.t 61)] [1,61]) .ret))) }
def Jw:aC:={ eL:=37,mode:=.pure,nparams:=2,aJ:=1,dc:=[],results:=[.box 4 0 4 true,.tmp 5 false],body:=
 (.seq (.g [.o 4 (.aE 0 [.i 0,.str [],.i 0,.i 0]) [],.m 5 (.i 0)] [5]) (.seq (.block 0 (.seq
 (.g [.m 13 (.t 0),.m 14 (.t 1),.o 15 .index [.t 13,.t 14],.c 16 66 [.t 15],.m 12 (.t 16)] [13,14,15,16])
 (.cond (.T 12) [] (.seq (.g [.m 17 (.t 0),.m 18 (.t 1),.c 19 67 [.t 17,.t 18,.b false],
 .m 6 (.t 19)] [17,18,19]) (.seq (.g [.m 20 (.t 0),.m 21 (.t 1),.m 22 (.t 1),.m 23 (.t 6),
 .o 24 (.bin .add) [.t 22,.t 23],.o 25 (.slice true true true false 0) [.t 20,.t 21,.t 24],.m 7 (.t 25)] [0,20,21,22,23,24,25]) (.seq (.seq
 (.g [.m 26 (.t 7),.c 27 68 [.t 26]] [26]) (.cond (.T 27) [] (.seq (.g [.m 28 (.t 7),.m 29 (.t 1),
 .o 30 (.build [.i 0,.str [],.i 0,.i 0] [(0,1),(1,1),(3,1)]) [.i 3,.t 28,.t 29],.m 31 (.t 6),
 .n (.ag 0 4) [.t 4,.t 30],.m 5 (.t 31)] [1,6,7,28,29,30,31]) .ret) [] .skip)) (.seq (.seq (.g [.m 32 (.t 7),
 .c 33 69 [.t 32]] [32]) (.cond (.T 33) [] (.seq (.g [.m 34 (.t 7),.m 35 (.t 1),
 .o 36 (.build [.i 0,.str [],.i 0,.i 0] [(0,1),(1,1),(3,1)]) [.i 1,.t 34,.t 35],.m 37 (.t 6),
 .n (.ag 0 4) [.t 4,.t 36],.m 5 (.t 37)] [1,6,7,34,35,36,37]) .ret) [1,6,7] .skip)) (.seq (.g [
 .o 38 (.build [.i 0,.str [],.i 0,.i 0] []) [],.n (.ag 0 4) [.t 4,.t 38],.m 5 (.i 0)] [38]) .ret))))) []
 (.seq (.g [.m 40 (.t 0),.m 41 (.t 1),.o 42 .index [.t 40,.t 41],.c 43 70 [.t 42],.m 39 (.t 43)] [40,41,42,43])
 (.cond (.T 39) [] (.seq (.g [.m 44 (.t 0),.m 45 (.t 1),.c 46 67 [.t 44,.t 45,.b true],
 .m 8 (.t 46)] [44,45,46]) (.seq (.g [.m 48 (.t 0),.m 49 (.t 1),.m 50 (.t 1),.m 51 (.t 8),
 .o 52 (.bin .add) [.t 50,.t 51],.o 53 (.slice true true true false 0) [.t 48,.t 49,.t 52],.c 54 71 [.t 53],.m 47 (.T 54),
 .o 55 (.extract 0) [.t 47],.o 56 (.extract 1) [.T 47],.m 9 (.t 55),.m 10 (.t 56)] [48,49,50,51,52,53,55,56]) (.seq (.seq (.g [
 .m 57 (.t 10),.o 58 (.un .not) [.t 57],.m 59 (.t 58),.z 60 .move [.t 8] 59,.z 61 (.bin .gtr) [.t 60,.i 1] 59,
 .z 62 .move [.t 61] 59,.y 63 .move [.t 0] 62,.y 64 .move [.t 1] 62,.y 65 .index [.t 63,.t 64] 62,.y 66 (.bin .eql) [.t 65,.const (.int .u8 48)] 62,
 .z 67 .pick [.t 62,.t 66,.b false] 59,.o 68 .pick [.t 59,.b true,.t 67],.m 69 (.t 68),.z 70 .move [.t 1] 69,
 .z 71 .move [.t 8] 69,.z 72 (.bin .add) [.t 70,.t 71] 69,.z 73 .move [.t 0] 69,.z 74 (.len .str) [.t 73] 69,.z 75 (.bin .lss) [.t 72,.t 74] 69,
 .z 76 .move [.t 75] 69,.y 77 .move [.t 0] 76,.y 78 .move [.t 1] 76,.y 79 .move [.t 8] 76,.y 80 (.bin .add) [.t 78,.t 79] 76,
 .y 81 .index [.t 77,.t 80] 76,.y 82 (.call 66) [.t 81] 76,.z 83 .pick [.t 76,.t 82,.b false] 69,
 .o 84 .pick [.t 69,.b true,.t 83]] [0,10,57,58,59,60,61,62,63,64,65,66,67,68,69,70,71,72,73,74,75,76,77,78,79,80,81,82,83])
 (.cond (.T 84) [1,8,9] (.seq (.g [.o 85 (.build [.i 0,.str [],.i 0,.i 0] []) [],.n (.ag 0 4) [.t 4,.t 85],
 .m 5 (.i 0)] [85]) .ret) [] .skip)) (.seq (.g [.m 86 (.t 9),.m 87 (.t 1),
 .o 88 (.build [.i 0,.str [],.i 0,.i 0] [(0,1),(2,1),(3,1)]) [.i 2,.t 86,.t 87],.m 89 (.t 8),
 .n (.ag 0 4) [.t 4,.t 88],.m 5 (.t 89)] [1,8,9,86,87,88,89]) .ret)))) [] .skip))))) (.seq (.g [.m 90 (.t 0),.m 91 (.t 1),
 .c 92 72 [.t 90,.t 91],.m 11 (.t 92)] [0,90,91,92]) (.seq (.seq (.g [.m 93 (.t 11),
 .o 94 (.bin .eql) [.t 93,.const (.str [])]] [93]) (.cond (.T 94) [1,11] (.seq (.g [
 .o 95 (.build [.i 0,.str [],.i 0,.i 0] []) [],.n (.ag 0 4) [.t 4,.t 95],.m 5 (.i 0)] [95]) .ret) []
 .skip)) (.seq (.g [.m 96 (.t 11),.m 97 (.t 1),
 .o 98 (.build [.i 0,.str [],.i 0,.i 0] [(0,1),(1,1),(3,1)]) [.i 4,.t 96,.t 97],.m 99 (.t 11),
 .o 100 (.len .str) [.t 99],.n (.ag 0 4) [.t 4,.t 98],.m 5 (.t 100)] [1,11,96,97,98,99,100]) .ret))))) }
def s38:aC:={ eL:=38,mode:=.lS,nparams:=1,aJ:=1,dc:=[],results:=[.tmp 2 false],body:=
 (.seq (.g [.o 2 .move [.const (.str [])]] [2]) (.seq (.g [.m 4 (.t 0),.c 5 13 [.t 4],
 .o 3 (.aE 0 [.i 0,.str [],.i 0,.i 0]) [],.n (.ag 0 4) [.t 3,.t 5]] [4,5]) (.seq (.seq (.g [.m 6 (.t 0),
 .c 7 12 [.t 6],.m 8 (.t 7),.y 9 (.fieldAddr 0) [.t 3] 8,.y 10 (.aj 0 false 1 false) [.t 9] 8,
 .y 11 (.bin .eql) [.t 10,.i 1] 8,.o 12 .pick [.t 8,.t 11,.b false]] [6,7,8,9,10,11]) (.cond (.T 12) [] (.seq (.g [
 .m 13 (.t 0),.o 14 .nilCheck [.t 13],.f 15 1 (.T 14),.d 16 (.T 15),
 .o 17 (.bin .add) [.t 16,.i 1],.o 18 .nilCheck [.t 13],.f 19 1 (.T 18),.n (.store 1) [.T 19,.t 17]] [0,13,16,17]) (.seq
 (.g [.f 20 1 (.t 3),.l 21 0 (.t 20),.m 2 (.t 21)] [3,20,21]) .ret)) [3] .skip)) (.seq (.g [
 .m 22 (.t 0),.c 23 15 [.t 22,.i 2]] [0,22,23]) (.seq (.g [.o 2 .move [.const (.str [])]] []) .ret))))) }
def PL:bG:=
 (.seq (.seq (.g [.m 6 (.t 0),.c 7 14 [.t 6,.const (.str [91])]] [6]) (.cond (.T 7) [] .skip [] (.exit 0))) (.block 1 (.seq (.seq
 (.g [.m 8 (.t 3),.o 9 (.bin .eql) [.t 8,.i 3]] [8]) (.cond (.T 9) [3] (.seq (.g [.m 10 (.t 0),
 .c 11 15 [.t 10,.i 4]] [0,10,11]) (.seq (.g [.o 12 (.build [.str [],.i 0] []) [],
 .n (.ag 0 2) [.t 2,.t 12]] [12]) .ret)) [] .skip)) (.seq (.g [.m 13 (.t 0),.o 14 .nilCheck [.t 13],.f 15 1 (.T 14),
 .d 16 (.T 15),.o 17 (.bin .add) [.t 16,.i 1],.o 18 .nilCheck [.t 13],.f 19 1 (.T 18),
 .n (.store 1) [.T 19,.t 17]] [13,16,17]) (.g [.m 20 (.t 3),.o 21 (.bin .add) [.t 20,.i 1],
 .m 3 (.t 21)] [20,21])))))
def EP:bG:=
 (.seq (.seq (.g [.m 43 (.t 5),.m 44 (.t 3),.o 45 (.bin .lss) [.t 43,.t 44]] [43,44]) (.cond (.T 45) [] .skip [0,3,5] (.exit 3)))
 (.seq (.block 4 (.g [.m 48 (.t 0),.c 49 18 [.t 48,.const (.str [93])]] [48,49])) (.g [.m 46 (.t 5),
 .o 47 (.bin .add) [.t 46,.i 1],.m 5 (.t 47)] [46,47])))
def s39:aC:={ eL:=39,mode:=.lS,nparams:=1,aJ:=2,dc:=[],results:=[.box 2 0 2 true],body:=
 (.seq (.g [.o 2 (.aE 0 [.str [],.i 0]) []] []) (.seq (.g [.m 3 (.i 0)] []) (.seq (.block 0
 (.loop PL)) (.seq (.g [.m 22 (.t 3),.o 23 (.build [.str [],.i 0] [(1,1)]) [.t 22],.o 4 (.aE 1 [.str [],.i 0]) [],
 .n (.ag 1 2) [.t 4,.t 23]] [22,23]) (.seq (.block 2 (.seq (.seq (.g [.m 28 (.t 0),.c 29 14 [.t 28,.const (.str [105,110,116])],
 .m 27 (.t 29)] [28,29]) (.cond (.t 27) [] .skip [27] (.g [.m 30 (.t 0),.c 31 14 [.t 30,.const (.str [98,111,111,108])],
 .m 27 (.t 31)] [30,31]))) (.cond (.T 27) [] (.seq (.g [.m 32 (.t 0),.c 33 13 [.t 32],.o 34 (.field 1 1 false) [.t 33],
 .f 35 0 (.t 4),.n (.ag 1 1) [.t 35,.t 34]] [32,33,34,35]) (.g [.m 36 (.t 0),.o 37 .nilCheck [.t 36],
 .f 38 1 (.T 37),.d 39 (.T 38),.o 40 (.bin .add) [.t 39,.i 1],.o 41 .nilCheck [.t 36],
 .f 42 1 (.T 41),.n (.store 1) [.T 42,.t 40]] [36,39,40])) [] (.g [.m 24 (.t 0),.c 25 38 [.t 24],
 .f 26 0 (.t 4),.n (.ag 1 1) [.t 26,.t 25]] [24,25,26])))) (.seq (.seq (.g [.m 5 (.i 0)] []) (.block 3
 (.loop EP))) (.seq (.g [.o 50 (.aj 1 true 2 false) [.t 4],.n (.ag 0 2) [.t 2,.t 50]] [4,50]) .ret))))))) }
def PM:bG:=
 (.seq (.seq (.g [.m 6 (.t 0),.c 7 12 [.t 6],.m 8 (.t 7),.y 9 .move [.t 0] 8,.y 10 (.call 14) [.t 9,.const (.str [125])] 8,
 .y 11 (.un .not) [.t 10] 8,.o 12 .pick [.t 8,.t 11,.b false]] [6,7,8,9,10,11]) (.cond (.T 12) [] .skip [] (.exit 0))) (.block 1 (.g [
 .m 13 (.T 3),.m 14 (.t 0),.c 15 74 [.t 14],
 .o 16 (.lit 9 1 [.i 0,.str [],.str [],.i 0,.U,.U,.U,.i 0,.i 0] [0]) [.T 15],.o 17 (.append 9 136) [.T 13,.T 16],
 .m 3 (.T 17)] [14])))
def s40:aC:={ eL:=40,mode:=.lS,nparams:=1,aJ:=0,dc:=[],results:=[.tmp 2 true],body:=
 (.seq (.g [.o 2 .move [.const .U]] [2]) (.seq (.g [.o 3 .move [.const .U]] []) (.seq (.g [.m 4 (.t 0),
 .c 5 73 [.t 4,.const (.str [123])]] [4,5]) (.seq (.block 0 (.loop PM)) (.seq (.g [.m 18 (.t 0),
 .c 19 75 [.t 18,.const (.str [125])]] [0,18,19]) (.seq (.g [.m 20 (.T 3),.m 2 (.T 20)] []) .ret)))))) }
def s41:aC:={ eL:=41,mode:=.pure,nparams:=1,aJ:=4,dc:=[],results:=[.box 2 1 4 true,.box 3 2 2 true],body:=
 (.seq (.g [.o 1 (.dW 0 3) [.T 0],.o 2 (.aE 1 [.U,.U,.U,.i 0]) [],.o 3 (.aE 2 [.i 0,.i 0]) []] [])
 (.seq (.g [.o 6 (.build [.U,.i 0,.i 0] []) [],.o 7 (.box 3) [.T 6],.m 4 (.t 7)] [7]) (.seq (.r [.m 8 (.t 4),
 .f 9 0 (.t 1),.l 10 0 (.t 9),.c 11 76 [.t 8,.T 10],.m 12 (.t 4),.f 13 1 (.t 1),
 .l 14 0 (.t 13),.c 15 77 [.t 12,.T 14],.m 16 (.t 4),.f 17 2 (.t 1),
 .l 18 0 (.t 17),.c 19 78 [.t 16,.T 18],
 .o 20 (.build [.U,.U,.U,.i 0] [(0,1),(1,1),(2,1)]) [.T 11,.T 15,.T 19],.o 5 (.aE 3 [.U,.U,.U,.i 0]) [],
 .n (.ag 3 4) [.t 5,.T 20]] (some []) [1,8,9,12,13,16,17]) (.seq (.g [.f 21 2 (.t 5),.l 22 3 (.t 21),
 .c 23 79 [.T 22,.const (.fn 80 [] [])],.f 24 3 (.t 5),.n (.ag 3 1) [.t 24,.t 23]] [21,23,24]) (.seq (.seq (.g [
 .f 25 3 (.t 5),.l 26 3 (.t 25),.o 27 (.bin .lss) [.t 26,.i 0]] [25,26]) (.cond (.T 27) []
 (.g [.m 28 (.t 4),.c 29 81 [.t 28,.i 0]] [28,29]) [] .skip)) (.seq (.seq (.g [.m 30 (.t 4),
 .o 31 .nilCheck [.t 30],.f 32 1 (.T 31),.f 33 0 (.T 32),.d 34 (.T 33),
 .o 35 (.bin .neq) [.t 34,.i 0]] [30,34]) (.cond (.T 35) [5] (.seq (.r [.o 36 (.build [.U,.U,.U,.i 0] []) [],
 .m 37 (.t 4),.o 38 .nilCheck [.t 37],.f 39 1 (.T 38),.o 40 (.load true 2 false) [.T 39],.n (.ag 1 4) [.t 2,.T 36],
 .n (.ag 2 2) [.t 3,.t 40]] (some []) [4,37,40]) .ret) [4] .skip)) (.seq (.g [.o 41 (.aj 3 true 4 false) [.t 5],
 .o 42 (.build [.i 0,.i 0] []) [],.n (.ag 1 4) [.t 2,.T 41],.n (.ag 2 2) [.t 3,.t 42]] [5,42]) .ret))))))) }
def s42:aC:={ eL:=42,mode:=.lS,nparams:=3,aJ:=3,dc:=[],results:=[.box 6 2 3 true],body:=
 (.seq (.g [.o 4 (.dW 0 7) [.T 1],.o 5 (.dW 1 6) [.T 2],.o 6 (.aE 2 [.U,.U,.i 0]) []] []) (.seq (.r [
 .m 8 (.t 0),.m 9 (.t 0),.o 10 (.aj 1 true 6 false) [.t 5],.f 11 1 (.t 5),.l 12 1 (.t 11),
 .c 13 82 [.T 12],.o 14 .nilCheck [.t 8],.f 15 5 (.T 14),.n (.store 6) [.T 15,.T 10],.o 16 .nilCheck [.t 9],
 .f 17 11 (.T 16),.n (.store 1) [.T 17,.T 13]] (some []) [5,8,9,11]) (.seq (.g [.m 18 (.t 0),.f 19 5 (.t 4),
 .l 20 0 (.t 19),.c 21 83 [.t 18,.T 20],.m 7 (.T 21)] [18,19]) (.seq (.r [.m 22 (.t 0),
 .o 23 .nilCheck [.t 22],.f 24 11 (.T 23),.d 25 (.T 24),.m 26 (.T 7),.f 27 6 (.t 4),
 .l 28 0 (.t 27),.o 29 (.build [.U,.U,.i 0] [(0,1),(1,1),(2,1)]) [.T 25,.T 26,.t 28],
 .n (.ag 2 3) [.t 6,.T 29]] (some []) [0,4,22,27,28]) .ret)))) }
def s43:aC:={ eL:=43,mode:=.lS,nparams:=1,aJ:=0,dc:=[],results:=[.tmp 2 false],body:=
 (.seq (.g [.m 2 (.b false)] [2]) (.seq (.g [.m 3 (.t 0),.o 4 .nilCheck [.t 3],.f 5 12 (.T 4),
 .f 6 0 (.T 5),.d 7 (.T 6),.o 8 (.bin .neq) [.t 7,.i 0],.m 2 (.t 8)] [0,3,7,8]) .ret)) }
def PN:bG:=
 (.seq (.g [.o 14 (.bin .lss) [.t 13,.t 12]] []) (.seq (.cond (.T 14) [] .skip [0,11,12,13] (.exit 0)) (.seq (.block 1 (.seq (.g [
 .o 15 (.indexAddr 9) [.t 11,.t 13],.o 16 (.load true 9 false) [.T 15],
 .o 8 (.aE 0 [.i 0,.str [],.str [],.i 0,.U,.U,.U,.i 0,.i 0]) [],.n (.ag 0 9) [.t 8,.T 16]] []) (.g [
 .m 17 (.t 0),.o 18 (.aj 0 true 9 false) [.t 8],.m 19 (.T 2),.c 20 85 [.t 17,.T 18,.T 19],.m 2 (.T 20)] [8,17])))
 (.g [.o 21 (.bin .add) [.t 13,.i 1],.m 13 (.t 21)] [21]))))
def s44:aC:={ eL:=44,mode:=.CP,nparams:=3,aJ:=1,dc:=[],results:=[.tmp 6 true],body:=
 (.seq (.g [.o 6 .move [.const .U]] [6]) (.seq (.g [.m 9 (.T 2),.c 10 84 [.T 9],.m 2 (.T 10)] []) (.seq (.seq
 (.g [.m 11 (.T 1),.o 12 (.len .sl) [.t 11],.m 13 (.i 0)] []) (.block 0 (.loop PN))) (.seq (.g [
 .m 22 (.T 2),.m 6 (.T 22)] []) .ret)))) }
def PO:bG:=
 (.seq (.g [.o 9 (.bin .lss) [.t 8,.t 7]] []) (.seq (.cond (.T 9) [] .skip [0,6,7,8] (.exit 0)) (.seq (.block 1 (.seq (.g [
 .o 10 (.indexAddr 9) [.t 6,.t 8],.o 11 (.load true 9 false) [.T 10],
 .o 5 (.aE 0 [.i 0,.str [],.str [],.i 0,.U,.U,.U,.i 0,.i 0]) [],.n (.ag 0 9) [.t 5,.T 11]] []) (.g [
 .m 12 (.t 0),.o 13 (.aj 0 true 9 false) [.t 5],.c 14 86 [.t 12,.T 13]] [5,12,14]))) (.g [
 .o 15 (.bin .add) [.t 8,.i 1],.m 8 (.t 15)] [15]))))
def s45:aC:={ eL:=45,mode:=.CP,nparams:=2,aJ:=1,dc:=[],results:=[],body:=
 (.seq (.g [.m 6 (.T 1),.o 7 (.len .sl) [.t 6],.m 8 (.i 0)] []) (.block 0 (.loop PO))) }
def Sx:aC:={ eL:=46,mode:=.pure,nparams:=1,aJ:=1,dc:=[],results:=[.tmp 2 false],body:=
 (.seq (.g [.o 1 (.dW 0 3) [.t 0],.m 2 (.b false)] [0,2]) (.seq (.g [.f 3 0 (.t 1),
 .l 4 0 (.t 3),.o 5 (.bin .eql) [.t 4,.i 3],.m 6 (.t 5),.z 7 (.fieldAddr 2) [.t 1] 6,
 .z 8 (.aj 0 false 1 false) [.t 7] 6,.z 9 (.bin .gtr) [.t 8,.i 0] 6,.o 10 .pick [.t 6,.b true,.t 9],
 .m 2 (.t 10)] [1,3,4,5,6,7,8,9,10]) .ret)) }
def s47:aC:={ eL:=47,mode:=.lS,nparams:=2,aJ:=1,dc:=[],results:=[.tmp 4 false],body:=
 (.seq (.g [.o 3 (.dW 0 3) [.t 1],.m 4 (.i 0)] [1,4]) (.seq (.r [.m 5 (.t 0),.m 6 (.t 0),
 .o 7 .nilCheck [.t 6],.f 8 5 (.T 7),.f 9 1 (.T 8),.o 10 (.load false 1 true) [.T 9],.o 11 (.aj 0 true 3 false) [.t 3],
 .o 12 (.lit 3 1 [.i 0,.i 0,.i 0] [0]) [.t 11],.o 13 (.append 3 24) [.T 10,.T 12],.o 14 .nilCheck [.t 5],.f 15 5 (.T 14),
 .f 16 1 (.T 15),.n (.store 1) [.T 16,.T 13]] (some []) [3,5,6,11]) (.seq (.g [.m 17 (.t 0),.o 18 .nilCheck [.t 17],
 .f 19 5 (.T 18),.f 20 1 (.T 19),.d 21 (.T 20),.o 22 (.len .sl) [.T 21],
 .o 23 (.bin .sub) [.t 22,.i 1],.m 4 (.t 23)] [0,17,22,23]) .ret))) }
def s48:aC:={ eL:=48,mode:=.CP,nparams:=2,aJ:=1,dc:=[],results:=[.tmp 4 false],body:=
 (.seq (.g [.o 3 (.dW 0 6) [.T 1],.m 4 (.i 0)] [4]) (.seq (.r [.m 5 (.t 0),.m 6 (.t 0),
 .o 7 .nilCheck [.t 6],.f 8 5 (.T 7),.f 9 6 (.T 8),.d 10 (.T 9),.o 11 (.aj 0 true 6 false) [.t 3],
 .o 12 (.lit 6 1 [.i 0,.i 0,.i 0,.i 0,.i 0,.U] [0]) [.T 11],.o 13 (.lT 6 64) [.T 10,.T 12],
 .o 14 .nilCheck [.t 5],.f 15 5 (.T 14),.f 16 6 (.T 15),.n (.store 1) [.T 16,.T 13]] (some []) [3,5,6]) (.seq (.g [
 .m 17 (.t 0),.o 18 .nilCheck [.t 17],.f 19 5 (.T 18),.f 20 6 (.T 19),.d 21 (.T 20),
 .o 22 (.len .sl) [.T 21],.o 23 (.bin .sub) [.t 22,.i 1],.m 4 (.t 23)] [0,17,22,23]) .ret))) }
def pT:aC:={ eL:=57,mode:=.pure,nparams:=1,aJ:=1,dc:=[],results:=[.tmp 2 false],body:=
 (.seq (.g [.o 1 (.dW 0 6) [.T 0],.m 2 (.b false)] [2]) (.seq (.g [.m 3 (.b false),
 .m 4 (.b false),.m 5 (.b false),.m 6 (.b false)] []) (.seq (.seq (.g [
 .f 7 0 (.t 1),.l 8 0 (.t 7)] [7]) (.block 0 (.seq (.seq (.g [.o 10 (.bin .eql) [.t 8,.i 1],
 .m 9 (.t 10)] [10]) (.cond (.t 9) [] .skip [9] (.seq (.g [.o 11 (.bin .eql) [.t 8,.i 11],.m 9 (.t 11)] [11])
 (.cond (.t 9) [] .skip [9] (.seq (.g [.o 12 (.bin .eql) [.t 8,.i 19],.m 9 (.t 12)] [12]) (.cond (.t 9) [] .skip [9]
 (.g [.o 13 (.bin .eql) [.t 8,.i 20],.m 9 (.t 13)] [13]))))))) (.cond (.T 9) [5,8] (.g [
 .m 5 (.b true)] []) [] (.seq (.seq (.g [.o 15 (.bin .eql) [.t 8,.i 3],.m 14 (.t 15)] [15])
 (.cond (.t 14) [] .skip [14] (.g [.o 16 (.bin .eql) [.t 8,.i 10],.m 14 (.t 16)] [16]))) (.cond (.T 14) [3,8] (.g [
 .m 3 (.b true)] []) [] (.seq (.g [.o 18 (.bin .eql) [.t 8,.i 4],.m 17 (.t 18)] [18])
 (.cond (.T 17) [3,4,5,8] (.g [.m 3 (.b true),.m 4 (.b true),.m 5 (.b true)] []) [] (.seq
 (.seq (.g [.o 20 (.bin .eql) [.t 8,.i 5],.m 19 (.t 20)] [20]) (.cond (.t 19) [] .skip [19] (.g [
 .o 21 (.bin .eql) [.t 8,.i 12],.m 19 (.t 21)] [21]))) (.cond (.T 19) [3,5,8] (.g [.m 3 (.b true),
 .m 5 (.b true)] []) [] (.seq (.seq (.g [.o 23 (.bin .eql) [.t 8,.i 6],.m 22 (.t 23)] [23])
 (.cond (.t 22) [] .skip [22] (.seq (.g [.o 24 (.bin .eql) [.t 8,.i 7],.m 22 (.t 24)] [24]) (.cond (.t 22) [] .skip [22]
 (.seq (.g [.o 25 (.bin .eql) [.t 8,.i 8],.m 22 (.t 25)] [25]) (.cond (.t 22) [] .skip [22] (.g [
 .o 26 (.bin .eql) [.t 8,.i 9],.m 22 (.t 26)] [26]))))))) (.cond (.T 22) [3,4,8] (.g [.m 3 (.b true),
 .m 4 (.b true)] []) [] (.seq (.g [.o 28 (.bin .eql) [.t 8,.i 13],.m 27 (.t 28)] [28])
 (.cond (.T 27) [4,6,8] (.g [.m 4 (.b true),.m 6 (.b true)] []) [] (.seq (.g [
 .o 30 (.bin .eql) [.t 8,.i 17],.m 29 (.t 30)] [30]) (.cond (.T 29) [4,5,8] (.g [.m 4 (.b true),
 .m 5 (.b true)] []) [] (.seq (.g [.o 32 (.bin .eql) [.t 8,.i 16],.m 31 (.t 32)] [8,32])
 (.cond (.T 31) [3,4,5,6] (.seq (.g [.f 33 1 (.t 1),.l 34 0 (.t 33),.o 35 (.bin .eql) [.t 34,.i 0],
 .m 36 (.t 35),.y 37 (.fieldAddr 2) [.t 1] 36,.y 38 (.aj 0 false 1 false) [.t 37] 36,.y 39 (.bin .eql) [.t 38,.i 0] 36,
 .o 40 .pick [.t 36,.t 39,.b false],.m 41 (.t 40),.y 42 (.fieldAddr 3) [.t 1] 41,.y 43 (.aj 0 false 1 false) [.t 42] 41,
 .y 44 (.bin .eql) [.t 43,.i 0] 41,.o 45 .pick [.t 41,.t 44,.b false],.m 46 (.t 45),.y 47 (.fieldAddr 5) [.t 1] 46,
 .y 48 (.aj 0 false 1 false) [.t 47] 46,.y 49 (.len .sl) [.T 48] 46,.y 50 (.bin .eql) [.t 49,.i 0] 46,
 .o 51 .pick [.t 46,.t 50,.b false],.m 2 (.t 51)] [1,33,34,35,36,37,38,39,40,41,42,43,44,45,46,47,48,49,50,51]) .ret) []
 .skip)))))))))))))))))) (.seq (.g [.m 52 (.t 3),.m 53 (.t 52),.z 54 (.fieldAddr 2) [.t 1] 53,.z 55 (.aj 0 false 1 false) [.t 54] 53,
 .z 56 (.bin .eql) [.t 55,.i 0] 53,.o 57 .pick [.t 53,.b true,.t 56],.m 58 (.t 57),.y 59 .move [.t 4] 58,
 .y 60 .move [.t 59] 58,.z 61 (.fieldAddr 3) [.t 1] 60,.z 62 (.aj 0 false 1 false) [.t 61] 60,.z 63 (.bin .eql) [.t 62,.i 0] 60,
 .y 64 .pick [.t 60,.b true,.t 63] 58,.o 65 .pick [.t 58,.t 64,.b false],.m 66 (.t 65),.y 67 .move [.t 5] 66,
 .y 68 .move [.t 67] 66,.z 69 (.fieldAddr 4) [.t 1] 68,.z 70 (.aj 0 false 1 false) [.t 69] 68,.z 71 (.bin .eql) [.t 70,.i 0] 68,
 .y 72 .pick [.t 68,.b true,.t 71] 66,.o 73 .pick [.t 66,.t 72,.b false],.m 74 (.t 73),.y 75 .move [.t 6] 74,
 .y 76 .move [.t 75] 74,.z 77 (.fieldAddr 5) [.t 1] 76,.z 78 (.aj 0 false 1 false) [.t 77] 76,.z 79 (.len .sl) [.T 78] 76,
 .z 80 (.bin .eql) [.t 79,.i 0] 76,.y 81 .pick [.t 76,.b true,.t 80] 74,.o 82 .pick [.t 74,.t 81,.b false],
 .m 2 (.t 82)] [1,3,4,5,6,52,53,54,55,56,57,58,59,60,61,62,63,64,65,66,67,68,69,70,71,72,73,74,75,76,77,78,79,80,81,82]) .ret)))) }
def s58:aC:={ eL:=58,mode:=.pure,nparams:=2,aJ:=2,dc:=[],results:=[.box 4 1 3 true],body:=
 (.seq (.g [.o 2 (.dW 0 7) [.T 0],.o 4 (.aE 1 [.i 0,.i 0,.i 0]) []] []) (.seq (.seq (.g [.m 5 (.t 1),
 .o 6 (.bin .lss) [.t 5,.i 0],.m 7 (.t 6),.z 8 .move [.t 1] 7,.z 9 (.fieldAddr 1) [.t 2] 7,.z 10 (.aj 0 false 1 false) [.t 9] 7,
 .z 11 (.len .sl) [.T 10] 7,.z 12 (.bin .geq) [.t 8,.t 11] 7,.o 13 .pick [.t 7,.b true,.t 12]] [5,6,7,8,9,10,11,12]) (.cond (.T 13) [1,2]
 (.seq (.g [.o 14 (.build [.i 0,.i 0,.i 0] []) [],.n (.ag 1 3) [.t 4,.t 14]] [14]) .ret) [] .skip)) (.seq (.g [
 .f 15 1 (.t 2),.l 16 0 (.t 15),.m 17 (.t 1),.o 18 (.indexAddr 3) [.T 16,.t 17],
 .o 19 (.load true 3 false) [.T 18],.n (.ag 1 3) [.t 4,.t 19]] [1,2,15,17,19]) .ret))) }
def s59:aC:={ eL:=59,mode:=.pure,nparams:=0,aJ:=1,dc:=[],results:=[.box 0 0 3 true],body:=
 (.seq (.g [.o 0 (.aE 0 [.i 0,.i 0,.i 0]) []] []) (.seq (.g [
 .o 1 (.build [.i 0,.i 0,.i 0] [(0,1)]) [.i 1],.n (.ag 0 3) [.t 0,.t 1]] [1]) .ret)) }
def s60:aC:={ eL:=60,mode:=.pure,nparams:=0,aJ:=1,dc:=[],results:=[.box 0 0 3 true],body:=
 (.seq (.g [.o 0 (.aE 0 [.i 0,.i 0,.i 0]) []] []) (.seq (.g [
 .o 1 (.build [.i 0,.i 0,.i 0] [(0,1)]) [.i 2],.n (.ag 0 3) [.t 0,.t 1]] [1]) .ret)) }
def tj:aC:={ eL:=61,mode:=.pure,nparams:=4,aJ:=3,dc:=[],results:=[.tmp 8 false],body:=
 (.seq (.g [.o 5 (.dW 0 3) [.t 1],.o 6 (.dW 1 3) [.t 2],.o 7 (.dW 2 3) [.t 3],.m 8 (.b false)] [1,2,3,8]) (.seq (.seq
 (.g [.m 9 (.t 0)] [0]) (.block 0 (.seq (.seq (.g [.o 11 (.bin .eql) [.t 9,.i 14],.m 10 (.t 11)] [11])
 (.cond (.t 10) [] .skip [10] (.seq (.g [.o 12 (.bin .eql) [.t 9,.i 15],.m 10 (.t 12)] [12]) (.cond (.t 10) [] .skip [10]
 (.seq (.g [.o 13 (.bin .eql) [.t 9,.i 16],.m 10 (.t 13)] [13]) (.cond (.t 10) [] .skip [10] (.seq (.g [
 .o 14 (.bin .eql) [.t 9,.i 17],.m 10 (.t 14)] [14]) (.cond (.t 10) [] .skip [10] (.g [
 .o 15 (.bin .eql) [.t 9,.i 18],.m 10 (.t 15)] [15]))))))))) (.cond (.T 10) [9] (.seq (.r [
 .o 16 (.aj 0 true 3 false) [.t 5],.c 17 59 [],.o 18 (.eqv (.flat [.int,.int,.int]) false) [.t 16,.t 17],.m 19 (.t 18),
 .y 20 (.aj 1 true 3 false) [.t 6] 19,.y 21 (.call 59) [] 19,.y 22 (.eqv (.flat [.int,.int,.int]) false) [.t 20,.t 21] 19,
 .o 23 .pick [.t 19,.t 22,.b false],.m 24 (.t 23),.y 25 (.aj 2 true 3 false) [.t 7] 24,.y 26 (.call 59) [] 24,
 .y 27 (.eqv (.flat [.int,.int,.int]) false) [.t 25,.t 26] 24,.o 28 .pick [.t 24,.t 27,.b false],
 .m 8 (.t 28)] (some []) [5,6,7,16,17,18,19,20,21,22,23,24,25,26,27,28]) .ret) [] (.seq (.seq (.g [.o 30 (.bin .eql) [.t 9,.i 19],
 .m 29 (.t 30)] [30]) (.cond (.t 29) [] .skip [29] (.g [.o 31 (.bin .eql) [.t 9,.i 20],.m 29 (.t 31)] [31])))
 (.cond (.T 29) [9] (.seq (.r [.o 32 (.aj 0 true 3 false) [.t 5],.c 33 60 [],.o 34 (.eqv (.flat [.int,.int,.int]) false) [.t 32,.t 33],
 .m 35 (.t 34),.y 36 (.aj 1 true 3 false) [.t 6] 35,.y 37 (.call 59) [] 35,.y 38 (.eqv (.flat [.int,.int,.int]) false) [.t 36,.t 37] 35,
 .o 39 .pick [.t 35,.t 38,.b false],.m 40 (.t 39),.y 41 (.aj 2 true 3 false) [.t 7] 40,.y 42 (.call 59) [] 40,
 .y 43 (.eqv (.flat [.int,.int,.int]) false) [.t 41,.t 42] 40,.o 44 .pick [.t 40,.t 43,.b false],
 .m 8 (.t 44)] (some []) [5,6,7,32,33,34,35,36,37,38,39,40,41,42,43,44]) .ret) [] (.seq (.seq (.g [.o 46 (.bin .eql) [.t 9,.i 21],
 .m 45 (.t 46)] [46]) (.cond (.t 45) [] .skip [45] (.g [.o 47 (.bin .eql) [.t 9,.i 22],.m 45 (.t 47)] [47])))
 (.cond (.T 45) [9] (.seq (.r [.o 48 (.aj 0 true 3 false) [.t 5],.c 49 60 [],.o 50 (.eqv (.flat [.int,.int,.int]) false) [.t 48,.t 49],
 .m 51 (.t 50),.y 52 (.aj 1 true 3 false) [.t 6] 51,.y 53 (.build [.i 0,.i 0,.i 0] []) [] 51,
 .y 54 (.eqv (.flat [.int,.int,.int]) true) [.t 52,.t 53] 51,.o 55 .pick [.t 51,.t 54,.b false],.m 56 (.t 55),
 .y 57 (.aj 1 true 3 false) [.t 6] 56,.y 58 (.aj 2 true 3 false) [.t 7] 56,.y 59 (.eqv (.flat [.int,.int,.int]) false) [.t 57,.t 58] 56,
 .o 60 .pick [.t 56,.t 59,.b false],.m 8 (.t 60)] (some []) [5,6,7,48,49,50,51,52,53,54,55,56,57,58,59,60]) .ret) [] (.seq (.seq (.g [
 .o 62 (.bin .eql) [.t 9,.i 23],.m 61 (.t 62)] [62]) (.cond (.t 61) [9] .skip [61] (.g [
 .o 63 (.bin .eql) [.t 9,.i 24],.m 61 (.t 63)] [9,63]))) (.cond (.T 61) [] (.seq (.r [.o 64 (.aj 0 true 3 false) [.t 5],
 .c 65 60 [],.o 66 (.eqv (.flat [.int,.int,.int]) false) [.t 64,.t 65],.m 67 (.t 66),.y 68 (.aj 1 true 3 false) [.t 6] 67,
 .y 69 (.call 60) [] 67,.y 70 (.eqv (.flat [.int,.int,.int]) false) [.t 68,.t 69] 67,.o 71 .pick [.t 67,.t 70,.b false],.m 72 (.t 71),
 .y 73 (.aj 2 true 3 false) [.t 7] 72,.y 74 (.call 60) [] 72,.y 75 (.eqv (.flat [.int,.int,.int]) false) [.t 73,.t 74] 72,
 .o 76 .pick [.t 72,.t 75,.b false],.m 8 (.t 76)] (some []) [5,6,7,64,65,66,67,68,69,70,71,72,73,74,75,76]) .ret) [5,6,7] .skip))))))))))
 (.seq (.g [.m 8 (.b false)] []) .ret))) }
def Uk:aC:={ eL:=62,mode:=.pure,nparams:=3,aJ:=3,dc:=[],results:=[.box 6 2 3 true],body:=
 (.seq (.g [.o 3 (.dW 0 5) [.T 0],.o 4 (.dW 1 3) [.t 1],.o 6 (.aE 2 [.i 0,.i 0,.i 0]) []] [1]) (.seq (.seq (.g [
 .f 7 0 (.t 4),.l 8 1 (.t 7),.o 9 (.bin .neq) [.t 8,.i 3],.m 10 (.t 9),
 .z 11 (.fieldAddr 2) [.t 4] 10,.z 12 (.aj 1 false 1 false) [.t 11] 10,.z 13 (.bin .neq) [.t 12,.i 0] 10,
 .o 14 .pick [.t 10,.b true,.t 13],.m 15 (.t 14),.z 16 (.fieldAddr 1) [.t 4] 15,.z 17 (.aj 1 false 1 false) [.t 16] 15,
 .z 18 (.bin .lss) [.t 17,.i 0] 15,.o 19 .pick [.t 15,.b true,.t 18],.m 20 (.t 19),.z 21 (.fieldAddr 1) [.t 4] 20,
 .z 22 (.aj 1 false 1 false) [.t 21] 20,.z 23 (.fieldAddr 0) [.t 3] 20,.z 24 (.aj 0 false 1 false) [.t 23] 20,.z 25 (.len .sl) [.T 24] 20,
 .z 26 (.bin .geq) [.t 22,.t 25] 20,.o 27 .pick [.t 20,.b true,.t 26],.m 28 (.t 27),.z 29 .move [.t 2] 28,
 .z 30 (.bin .lss) [.t 29,.i 0] 28,.o 31 .pick [.t 28,.b true,.t 30],.m 32 (.t 31),.z 33 .move [.t 2] 32,
 .z 34 (.fieldAddr 0) [.t 3] 32,.z 35 (.aj 0 false 1 false) [.t 34] 32,.z 36 (.fieldAddr 1) [.t 4] 32,.z 37 (.aj 1 false 1 false) [.t 36] 32,
 .z 38 (.indexAddr 2) [.T 35,.t 37] 32,.z 39 (.fieldAddr 1) [.T 38] 32,.z 40 (.load false 1 false) [.T 39] 32,.z 41 (.len .sl) [.T 40] 32,
 .z 42 (.bin .geq) [.t 33,.t 41] 32,
 .o 43 .pick [.t 32,.b true,.t 42]] [7,8,9,10,11,12,13,14,15,16,17,18,19,20,21,22,23,24,25,26,27,28,29,30,31,32,33,34,35,36,37,38,39,40,41,42])
 (.cond (.T 43) [2,3,4] (.seq (.g [.o 44 (.build [.i 0,.i 0,.i 0] []) [],.n (.ag 2 3) [.t 6,.t 44]] [44]) .ret) [] .skip))
 (.seq (.g [.f 45 0 (.t 3),.l 46 0 (.t 45),.f 47 1 (.t 4),.l 48 1 (.t 47),
 .o 49 (.indexAddr 2) [.T 46,.t 48],.f 50 1 (.T 49),.d 51 (.T 50),.m 52 (.t 2),.o 53 (.indexAddr 4) [.T 51,.t 52],
 .f 54 1 (.T 53),.o 55 (.load true 3 false) [.T 54],.n (.ag 2 3) [.t 6,.t 55]] [2,3,4,45,47,48,52,55]) .ret))) }
def s63:aC:={ eL:=63,mode:=.pure,nparams:=1,aJ:=2,dc:=[],results:=[.box 2 1 3 true],body:=
 (.seq (.g [.o 1 (.dW 0 3) [.t 0],.o 2 (.aE 1 [.i 0,.i 0,.i 0]) []] [0]) (.seq (.g [.f 3 0 (.t 1),
 .l 4 0 (.t 3),.f 5 1 (.t 1),.l 6 0 (.t 5),.f 7 2 (.t 1),
 .l 8 0 (.t 7),.o 9 (.bin .sub) [.t 8,.i 1],
 .o 10 (.build [.i 0,.i 0,.i 0] [(0,1),(1,1),(2,1)]) [.t 4,.t 6,.t 9],.n (.ag 1 3) [.t 2,.t 10]] [1,3,4,5,6,7,8,9,10]) .ret)) }
def s64:aC:={ eL:=64,mode:=.pure,nparams:=4,aJ:=2,dc:=[],results:=[.tmp 8 false],body:=
 (.seq (.g [.o 4 (.dW 0 5) [.T 0],.o 7 (.dW 1 3) [.t 3],.m 8 (.b false)] [3,8]) (.seq (.r [.m 9 (.t 2),
 .o 10 (.bin .geq) [.t 9,.i 0],.m 11 (.t 10),.y 12 .move [.t 2] 11,.y 13 (.fieldAddr 3) [.t 4] 11,
 .y 14 (.aj 0 false 1 false) [.t 13] 11,.y 15 (.len .sl) [.T 14] 11,.y 16 (.bin .lss) [.t 12,.t 15] 11,.o 17 .pick [.t 11,.t 16,.b false],
 .m 18 (.t 17),.y 19 (.fieldAddr 3) [.t 4] 18,.y 20 (.aj 0 false 1 false) [.t 19] 18,.y 21 .move [.t 2] 18,.y 22 (.indexAddr 4) [.T 20,.t 21] 18,
 .y 23 (.fieldAddr 0) [.T 22] 18,.y 24 (.load false 1 false) [.T 23] 18,.y 25 .move [.t 1] 18,.y 26 (.bin .eql) [.t 24,.t 25] 18,
 .o 27 .pick [.t 18,.t 26,.b false],.m 28 (.t 27),.y 29 (.fieldAddr 3) [.t 4] 28,.y 30 (.aj 0 false 1 false) [.t 29] 28,
 .y 31 .move [.t 2] 28,.y 32 (.indexAddr 4) [.T 30,.t 31] 28,.y 33 (.fieldAddr 1) [.T 32] 28,.y 34 (.load true 3 false) [.T 33] 28,
 .y 35 (.aj 1 true 3 false) [.t 7] 28,.y 36 (.eqv (.flat [.int,.int,.int]) false) [.t 34,.t 35] 28,.o 37 .pick [.t 28,.t 36,.b false],
 .m 8 (.t 37)] (some []) [1,2,4,7,9,10,11,12,13,14,15,16,17,18,19,20,21,22,23,24,25,26,27,28,29,30,31,32,33,34,35,36,37]) .ret)) }
def PT:bG:=
 (.seq (.seq (.g [.m 47 (.t 8),.f 48 5 (.t 5),.l 49 2 (.t 48),.o 50 (.len .sl) [.T 49],
 .o 51 (.bin .lss) [.t 47,.t 50]] [47,48,50]) (.cond (.T 51) [] .skip [8] (.exit 0))) (.seq (.block 1 (.seq (.r [
 .o 54 (.aj 1 true 7 false) [.t 4],.f 55 5 (.t 5),.l 56 2 (.t 55),.m 57 (.t 8),
 .o 58 (.indexAddr 1) [.T 56,.t 57],.d 59 (.T 58),.c 60 58 [.T 54,.t 59],
 .o 9 (.aE 4 [.i 0,.i 0,.i 0]) [],.n (.ag 4 3) [.t 9,.t 60]] (some []) [55,57,59,60]) (.seq (.r [
 .o 61 (.aj 4 true 3 false) [.t 9],.o 62 (.build [.i 0,.i 0,.i 0] []) [],.o 63 (.eqv (.flat [.int,.int,.int]) false) [.t 61,.t 62],
 .m 64 (.t 63),.z 65 (.aj 4 true 3 false) [.t 9] 64,.z 66 (.fieldAddr 1) [.t 7] 64,.z 67 (.aj 3 false 1 false) [.t 66] 64,
 .z 68 .move [.t 8] 64,.z 69 (.indexAddr 3) [.T 67,.t 68] 64,.z 70 (.load true 3 false) [.T 69] 64,
 .z 71 (.eqv (.flat [.int,.int,.int]) true) [.t 65,.t 70] 64,.o 72 .pick [.t 64,.b true,.t 71]] (some []) [9,61,62,63,64,65,66,67,68,69,70,71])
 (.cond (.T 72) [4,5,7,8] (.seq (.g [.m 6 (.b false)] []) .ret) [] .skip)))) (.g [.m 52 (.t 8),
 .o 53 (.bin .add) [.t 52,.i 1],.m 8 (.t 53)] [52,53])))
def We:aC:={ eL:=65,mode:=.pure,nparams:=3,aJ:=6,dc:=[],results:=[.tmp 6 false],body:=
 (.seq (.g [.o 3 (.dW 0 5) [.T 0],.o 4 (.dW 1 7) [.T 1],.o 5 (.dW 2 6) [.T 2],.m 6 (.b false)] [6]) (.seq (.seq
 (.g [.f 11 3 (.t 5),.l 12 2 (.t 11),.o 13 (.bin .lss) [.t 12,.i 0],.m 14 (.t 13),
 .z 15 (.fieldAddr 3) [.t 5] 14,.z 16 (.aj 2 false 1 false) [.t 15] 14,.z 17 (.fieldAddr 2) [.t 3] 14,.z 18 (.aj 0 false 1 false) [.t 17] 14,
 .z 19 (.len .sl) [.T 18] 14,.z 20 (.bin .geq) [.t 16,.t 19] 14,.o 21 .pick [.t 14,.b true,.t 20]] [11,12,13,14,15,16,17,18,19,20])
 (.cond (.T 21) [3,4,5] (.seq (.g [.m 6 (.b false)] []) .ret) [] .skip)) (.seq (.g [.f 22 2 (.t 3),
 .l 23 0 (.t 22),.f 24 3 (.t 5),.l 25 2 (.t 24),.o 26 (.indexAddr 7) [.T 23,.t 25],
 .o 27 (.load true 7 false) [.T 26],.o 7 (.aE 3 [.i 0,.U,.bool false,.i 0,.i 0,.i 0,.U]) [],
 .n (.ag 3 7) [.t 7,.T 27]] [3,22,24,25]) (.seq (.seq (.g [.f 28 0 (.t 7),.l 29 3 (.t 28),
 .o 30 (.bin .lss) [.t 29,.i 0],.m 31 (.t 30),.z 32 (.fieldAddr 0) [.t 7] 31,.z 33 (.aj 3 false 1 false) [.t 32] 31,
 .z 34 (.fieldAddr 1) [.t 7] 31,.z 35 (.aj 3 false 1 false) [.t 34] 31,.z 36 (.len .sl) [.T 35] 31,.z 37 (.bin .gtr) [.t 33,.t 36] 31,
 .o 38 .pick [.t 31,.b true,.t 37],.m 39 (.t 38),.z 40 (.fieldAddr 5) [.t 5] 39,.z 41 (.aj 2 false 1 false) [.t 40] 39,
 .z 42 (.len .sl) [.T 41] 39,.z 43 (.fieldAddr 0) [.t 7] 39,.z 44 (.aj 3 false 1 false) [.t 43] 39,.z 45 (.bin .neq) [.t 42,.t 44] 39,
 .o 46 .pick [.t 39,.b true,.t 45]] [28,29,30,31,32,33,34,35,36,37,38,39,40,41,42,43,44,45]) (.cond (.T 46) [4,5,7] (.seq (.g [
 .m 6 (.b false)] []) .ret) [] .skip)) (.seq (.seq (.g [.m 8 (.i 0)] []) (.block 0 (.loop PT)))
 (.seq (.seq (.g [.f 73 1 (.t 5),.l 74 2 (.t 73),.o 75 (.bin .eql) [.t 74,.const (.i (-1))]] [73,74])
 (.cond (.T 75) [4,5,7] (.seq (.g [.m 6 (.b true)] []) .ret) [] .skip)) (.seq (.g [.o 76 (.aj 1 true 7 false) [.t 4],
 .f 77 1 (.t 5),.l 78 2 (.t 77),.c 79 58 [.T 76,.t 78],
 .o 10 (.aE 5 [.i 0,.i 0,.i 0]) [],.n (.ag 5 3) [.t 10,.t 79]] [4,5,77,78,79]) (.seq (.g [.f 80 2 (.t 7),
 .l 81 3 (.t 80),.m 82 (.t 81),.y 83 (.aj 5 true 3 false) [.t 10] 82,
 .y 84 (.build [.i 0,.i 0,.i 0] []) [] 82,.y 85 (.eqv (.flat [.int,.int,.int]) true) [.t 83,.t 84] 82,
 .o 86 .pick [.t 82,.t 85,.b false],.m 87 (.t 86),.y 88 (.aj 5 true 3 false) [.t 10] 87,.y 89 (.fieldAddr 3) [.t 7] 87,
 .y 90 (.aj 3 true 3 false) [.t 89] 87,.y 91 (.eqv (.flat [.int,.int,.int]) false) [.t 88,.t 90] 87,.o 92 .pick [.t 87,.t 91,.b false],
 .m 6 (.t 92)] [7,10,80,81,82,83,84,85,86,87,88,89,90,91,92]) .ret)))))))) }
def X3:aC:={ eL:=66,mode:=.pure,nparams:=1,aJ:=0,dc:=[],results:=[.tmp 2 false],body:=
 (.seq (.g [.m 2 (.b false)] [2]) (.seq (.g [.m 3 (.t 0),.o 4 (.bin .geq) [.t 3,.const (.int .u8 97)],
 .m 5 (.t 4),.y 6 .move [.t 0] 5,.y 7 (.bin .leq) [.t 6,.const (.int .u8 122)] 5,.o 8 .pick [.t 5,.t 7,.b false],.m 9 (.t 8),
 .z 10 .move [.t 0] 9,.z 11 (.bin .geq) [.t 10,.const (.int .u8 65)] 9,.z 12 .move [.t 11] 9,.y 13 .move [.t 0] 12,
 .y 14 (.bin .leq) [.t 13,.const (.int .u8 90)] 12,.z 15 .pick [.t 12,.t 14,.b false] 9,.o 16 .pick [.t 9,.b true,.t 15],
 .m 2 (.t 16)] [0,3,4,5,6,7,8,9,10,11,12,13,14,15,16]) .ret)) }
def PU:bG:=
 (.seq (.seq (.g [.m 8 (.t 1),.m 9 (.t 7),.o 10 (.bin .add) [.t 8,.t 9],.m 11 (.t 0),.o 12 (.len .str) [.t 11],
 .o 13 (.bin .lss) [.t 10,.t 12],.m 14 (.t 13),.y 15 .move [.t 0] 14,.y 16 .move [.t 1] 14,.y 17 .move [.t 7] 14,.y 18 (.bin .add) [.t 16,.t 17] 14,
 .y 19 .index [.t 15,.t 18] 14,.y 20 (.call 70) [.t 19] 14,.y 21 .move [.t 20] 14,.z 22 .move [.t 2] 21,.z 23 (.un .not) [.t 22] 21,
 .z 24 .move [.t 23] 21,.y 25 .move [.t 0] 24,.y 26 .move [.t 1] 24,.y 27 .move [.t 7] 24,.y 28 (.bin .add) [.t 26,.t 27] 24,
 .y 29 .index [.t 25,.t 28] 24,.y 30 (.call 66) [.t 29] 24,.z 31 .pick [.t 24,.t 30,.b false] 21,
 .y 32 .pick [.t 21,.b true,.t 31] 14,
 .o 33 .pick [.t 14,.t 32,.b false]] [8,9,10,11,12,13,14,15,16,17,18,19,20,21,22,23,24,25,26,27,28,29,30,31,32]) (.cond (.T 33) []
 .skip [0,1,2] (.exit 0))) (.block 1 (.g [.m 34 (.t 7),.o 35 (.bin .add) [.t 34,.i 1],.m 7 (.t 35)] [34,35])))
def s67:aC:={ eL:=67,mode:=.pure,nparams:=3,aJ:=0,dc:=[],results:=[.tmp 6 false],body:=
 (.seq (.g [.m 6 (.i 0)] [6]) (.seq (.g [.m 7 (.i 0)] []) (.seq (.block 0 (.loop PU))
 (.seq (.g [.m 36 (.t 7),.m 6 (.t 36)] [7,36]) .ret)))) }
def PW:bG:=
 (.seq (.seq (.g [.m 6 (.t 4),.m 7 (.t 3),.o 8 (.len .sl) [.T 7],.o 9 (.bin .lss) [.t 6,.t 8]] [6,8]) (.cond (.T 9) [] .skip [0,3,4]
 (.exit 0))) (.seq (.block 1 (.seq (.g [.m 12 (.t 3),.m 13 (.t 4),.o 14 (.indexAddr 1) [.T 12,.t 13],.d 15 (.T 14),
 .m 16 (.t 0),.o 17 (.bin .eql) [.t 15,.t 16]] [13,15,16]) (.cond (.T 17) [0,3,4] (.seq (.g [.m 2 (.b true)] [])
 .ret) [] .skip))) (.g [.m 10 (.t 4),.o 11 (.bin .add) [.t 10,.i 1],.m 4 (.t 11)] [10,11])))
def s68:aC:={ eL:=68,mode:=.pure,nparams:=1,aJ:=0,dc:=[],results:=[.tmp 2 false],body:=
 (.seq (.g [.m 2 (.b false)] [2]) (.seq (.g [.c 5 95 [],.m 3 (.T 5)] []) (.seq (.seq (.g [
 .m 4 (.i 0)] []) (.block 0 (.loop PW))) (.seq (.g [.m 2 (.b false)] []) .ret)))) }
def PX:bG:=
 (.seq (.seq (.g [.m 22 (.t 3),.m 23 (.t 0),.o 24 (.len .str) [.t 23],.o 25 (.bin .lss) [.t 22,.t 24]] [22,23,24]) (.cond (.T 25) []
 .skip [0,3] (.exit 0))) (.seq (.block 1 (.seq (.g [.m 28 (.t 0),.m 29 (.t 3),.o 30 .index [.t 28,.t 29],.c 31 66 [.t 30],
 .o 32 (.un .not) [.t 31],.m 33 (.t 32),.y 34 .move [.t 0] 33,.y 35 .move [.t 3] 33,.y 36 .index [.t 34,.t 35] 33,.y 37 (.call 70) [.t 36] 33,
 .y 38 (.un .not) [.t 37] 33,.o 39 .pick [.t 33,.t 38,.b false]] [28,29,30,31,32,33,34,35,36,37,38]) (.cond (.T 39) [0,3] (.seq (.g [
 .m 2 (.b false)] []) .ret) [] .skip))) (.g [.m 26 (.t 3),.o 27 (.bin .add) [.t 26,.i 1],
 .m 3 (.t 27)] [26,27])))
def X4:aC:={ eL:=69,mode:=.pure,nparams:=1,aJ:=0,dc:=[],results:=[.tmp 2 false],body:=
 (.seq (.g [.m 2 (.b false)] [2]) (.seq (.seq (.g [.m 4 (.t 0),.o 5 (.len .str) [.t 4],
 .o 6 (.bin .lss) [.t 5,.i 1],.m 7 (.t 6),.z 8 .move [.t 0] 7,.z 9 (.len .str) [.t 8] 7,
 .z 10 (.bin .gtr) [.t 9,.i 8] 7,.o 11 .pick [.t 7,.b true,.t 10],.m 12 (.t 11),.z 13 .move [.t 0] 12,
 .z 14 .index [.t 13,.i 0] 12,.z 15 (.call 66) [.t 14] 12,.z 16 (.un .not) [.t 15] 12,.o 17 .pick [.t 12,.b true,.t 16],
 .m 18 (.t 17),.z 19 .move [.t 0] 18,.z 20 (.call 68) [.t 19] 18,
 .o 21 .pick [.t 18,.b true,.t 20]] [4,5,6,7,8,9,10,11,12,13,14,15,16,17,18,19,20]) (.cond (.T 21) [0] (.seq (.g [
 .m 2 (.b false)] []) .ret) [] .skip)) (.seq (.seq (.g [.m 3 (.i 0)] []) (.block 0 (.loop PX)))
 (.seq (.g [.m 2 (.b true)] []) .ret)))) }
def s70:aC:={ eL:=70,mode:=.pure,nparams:=1,aJ:=0,dc:=[],results:=[.tmp 2 false],body:=
 (.seq (.g [.m 2 (.b false)] [2]) (.seq (.g [.m 3 (.t 0),.o 4 (.bin .geq) [.t 3,.const (.int .u8 48)],
 .m 5 (.t 4),.y 6 .move [.t 0] 5,.y 7 (.bin .leq) [.t 6,.const (.int .u8 57)] 5,.o 8 .pick [.t 5,.t 7,.b false],
 .m 2 (.t 8)] [0,3,4,5,6,7,8]) .ret)) }
def PY:bG:=
 (.seq (.seq (.g [.m 7 (.t 5),.m 8 (.t 0),.o 9 (.len .str) [.t 8],.o 10 (.bin .lss) [.t 7,.t 9]] [7,8,9]) (.cond (.T 10) []
 .skip [0,5] (.exit 0))) (.seq (.block 1 (.seq (.g [.m 13 (.t 0),.m 14 (.t 5),.o 15 .index [.t 13,.t 14],
 .o 16 (.bin .sub) [.t 15,.const (.int .u8 48)],.o 17 (.conv .i64) [.t 16],.m 6 (.t 17)] [13,14,15,16,17]) (.seq (.seq (.g [
 .m 18 (.t 4),.m 19 (.t 6),.o 20 (.bin .sub) [.i 9223372036854775807,.t 19],.o 21 (.bin .quo) [.t 20,.i 10],
 .o 22 (.bin .gtr) [.t 18,.t 21]] [18,19,20,21]) (.cond (.T 22) [0,4,5,6] (.seq (.g [.m 2 (.i 0),
 .m 3 (.b false)] []) .ret) [] .skip)) (.g [.m 23 (.t 4),.o 24 (.bin .mul) [.i 10,.t 23],
 .m 25 (.t 6),.o 26 (.bin .add) [.t 24,.t 25],.m 4 (.t 26)] [6,23,24,25,26])))) (.g [.m 11 (.t 5),
 .o 12 (.bin .add) [.t 11,.i 1],.m 5 (.t 12)] [11,12])))
def s71:aC:={ eL:=71,mode:=.pure,nparams:=1,aJ:=0,dc:=[],results:=[.tmp 2 false,.tmp 3 false],body:=
 (.seq (.g [.m 2 (.i 0),.m 3 (.b false)] [2,3]) (.seq (.g [
 .m 4 (.i 0)] []) (.seq (.seq (.g [.m 5 (.i 0)] []) (.block 0 (.loop PY))) (.seq (.g [
 .m 27 (.t 4),.m 2 (.t 27),.m 3 (.b true)] [4,27]) .ret)))) }
def PZ:bG:=
 (.seq (.seq (.g [.m 10 (.t 6),.m 11 (.t 5),.o 12 (.len .sl) [.T 11],.o 13 (.bin .lss) [.t 10,.t 12]] [10,12]) (.cond (.T 13) []
 .skip [5,6] (.exit 0))) (.seq (.block 1 (.seq (.r [.m 16 (.t 0),.o 17 (.len .str) [.t 16],.m 18 (.t 1),.o 19 (.bin .sub) [.t 17,.t 18],
 .o 20 (.bin .geq) [.t 19,.i 2],.m 21 (.t 20),.y 22 .move [.t 0] 21,.y 23 .move [.t 1] 21,.y 24 .move [.t 1] 21,
 .y 25 (.bin .add) [.t 24,.i 2] 21,.y 26 (.slice true true true false 0) [.t 22,.t 23,.t 25] 21,.y 27 .move [.t 5] 21,.y 28 .move [.t 6] 21,
 .y 29 (.indexAddr 1) [.T 27,.t 28] 21,.y 30 (.load false 1 false) [.T 29] 21,.y 31 (.bin .eql) [.t 26,.t 30] 21,
 .o 32 .pick [.t 21,.t 31,.b false]] (some []) [16,17,18,19,20,21,22,23,24,25,26,27,28,29,30,31]) (.cond (.T 32) [0,1] (.seq (.g [
 .m 33 (.T 5),.m 34 (.t 6),.o 35 (.indexAddr 1) [.T 33,.t 34],.d 36 (.T 35),.m 4 (.t 36)] [6,34,36]) .ret) []
 .skip))) (.g [.m 14 (.t 6),.o 15 (.bin .add) [.t 14,.i 1],.m 6 (.t 15)] [14,15])))
def P0:bG:=
 (.seq (.seq (.g [.m 37 (.t 8),.m 38 (.t 7),.o 39 (.len .str) [.t 38],.o 40 (.bin .lss) [.t 37,.t 39]] [37,38,39]) (.cond (.T 40) []
 .skip [0,1,7,8] (.exit 2))) (.seq (.block 3 (.seq (.r [.m 43 (.t 0),.m 44 (.t 1),.o 45 .index [.t 43,.t 44],.m 46 (.t 7),
 .m 47 (.t 8),.o 48 .index [.t 46,.t 47],.o 49 (.bin .eql) [.t 45,.t 48]] (some []) [43,44,45,46,47,48]) (.cond (.T 49) [0,1] (.seq (.g [
 .m 50 (.t 7),.m 51 (.t 8),.m 52 (.t 8),.o 53 (.bin .add) [.t 52,.i 1],
 .o 54 (.slice true true true false 0) [.t 50,.t 51,.t 53],.m 4 (.t 54)] [7,8,50,51,52,53,54]) .ret) [] .skip))) (.g [.m 41 (.t 8),
 .o 42 (.bin .add) [.t 41,.i 1],.m 8 (.t 42)] [41,42])))
def s72:aC:={ eL:=72,mode:=.pure,nparams:=2,aJ:=0,dc:=[],results:=[.tmp 4 false],body:=
 (.seq (.g [.o 4 .move [.const (.str [])]] [4]) (.seq (.g [
 .o 9 (.lit 1 5 [.str []] [0,1,2,3,4]) [.const (.str [60,61]),.const (.str [61,61]),.const (.str [33,61]),.const (.str [38,38]),.const (.str [124,124])],
 .m 5 (.T 9)] []) (.seq (.seq (.g [.m 6 (.i 0)] []) (.block 0 (.loop PZ))) (.seq (.g [
 .o 7 .move [.const (.str [123,125,40,41,91,93,59,58,44,46,61,43,45,42,47,37,60,33])]] []) (.seq (.seq (.g [
 .m 8 (.i 0)] []) (.block 2 (.loop P0))) (.seq (.g [.o 4 .move [.const (.str [])]] []) .ret)))))) }
def s73:aC:={ eL:=73,mode:=.lS,nparams:=2,aJ:=0,dc:=[],results:=[],body:=
 (.seq (.seq (.g [.m 4 (.t 0),.m 5 (.t 1),.c 6 14 [.t 4,.t 5],.m 7 (.t 6),.y 8 .move [.t 0] 7,.y 9 .nilCheck [.t 8] 7,
 .y 10 (.fieldAddr 2) [.T 9] 7,.y 11 (.load false 1 false) [.T 10] 7,.y 12 (.bin .geq) [.t 11,.i 50] 7,
 .o 13 .pick [.t 7,.t 12,.b false]] [4,5,6,7,8,9,10,11,12]) (.cond (.T 13) [1] (.seq (.g [.m 14 (.t 0),
 .c 15 15 [.t 14,.i 4]] [0,14,15]) .ret) [] .skip)) (.seq (.g [.m 16 (.t 0),.m 17 (.t 1),
 .c 18 18 [.t 16,.t 17]] [1,16,17,18]) (.g [.m 19 (.t 0),.o 20 .nilCheck [.t 19],.f 21 2 (.T 20),
 .d 22 (.T 21),.o 23 (.bin .add) [.t 22,.i 1],.o 24 .nilCheck [.t 19],.f 25 2 (.T 24),
 .n (.store 1) [.T 25,.t 23]] [0,19,22,23]))) }
def P1:aC:={ eL:=74,mode:=.lS,nparams:=1,aJ:=3,dc:=[],results:=[.box 2 0 9 true],body:=
 (.seq (.g [.o 2 (.aE 0 [.i 0,.str [],.str [],.i 0,.U,.U,.U,.i 0,.i 0]) []] []) (.seq (.g [
 .m 5 (.t 0),.c 6 13 [.t 5],.o 3 (.aE 1 [.i 0,.str [],.i 0,.i 0]) [],.n (.ag 1 4) [.t 3,.t 6]] [5,6]) (.seq
 (.g [.f 7 3 (.t 3),.l 8 1 (.t 7),
 .o 9 (.build [.i 0,.str [],.str [],.i 0,.U,.U,.U,.i 0,.i 0] [(7,1)]) [.t 8],
 .o 4 (.aE 2 [.i 0,.str [],.str [],.i 0,.U,.U,.U,.i 0,.i 0]) [],.n (.ag 2 9) [.t 4,.T 9]] [7,8]) (.seq
 (.block 0 (.seq (.seq (.g [.m 14 (.t 0),.c 15 14 [.t 14,.const (.str [118,97,114])],.m 13 (.t 15)] [14,15]) (.cond (.t 13) []
 .skip [13] (.g [.m 16 (.t 0),.c 17 14 [.t 16,.const (.str [108,101,116])],.m 13 (.t 17)] [16,17]))) (.cond (.T 13) [] (.seq
 (.g [.m 18 (.t 0),.o 19 .nilCheck [.t 18],.f 20 1 (.T 19),.d 21 (.T 20),
 .o 22 (.bin .add) [.t 21,.i 1],.o 23 .nilCheck [.t 18],.f 24 1 (.T 23),.n (.store 1) [.T 24,.t 22]] [18,21,22]) (.seq
 (.g [.f 25 0 (.t 4),.n (.ag 2 1) [.t 25,.i 1]] [25]) (.seq (.g [.m 26 (.t 0),
 .c 27 38 [.t 26],.f 28 1 (.t 4),.n (.ag 2 1) [.t 28,.t 27]] [26,27,28]) (.seq (.g [.m 29 (.t 0),
 .c 30 18 [.t 29,.const (.str [58])]] [29,30]) (.seq (.g [.m 31 (.t 0),.c 32 39 [.t 31],.f 33 2 (.t 4),
 .n (.ag 2 2) [.t 33,.t 32]] [31,32,33]) (.seq (.seq (.g [.f 34 1 (.t 3),.l 35 1 (.t 34),
 .o 36 (.bin .eql) [.t 35,.const (.str [108,101,116])]] [3,34,35]) (.cond (.T 36) [] (.seq (.g [.f 37 0 (.t 4),
 .n (.ag 2 1) [.t 37,.i 2]] [37]) (.seq (.g [.m 38 (.t 0),.c 39 18 [.t 38,.const (.str [61])]] [38,39])
 (.g [.m 40 (.t 0),.c 41 96 [.t 40,.i 0],
 .o 42 (.lit 11 1 [.i 0,.i 0,.str [],.str [],.i 0,.U,.i 0,.i 0,.i 0,.i 0,.i 0] [0]) [.T 41],
 .f 43 4 (.t 4),.n (.ag 2 1) [.t 43,.T 42]] [40,43]))) [] .skip)) (.g [.m 44 (.t 0),
 .c 45 18 [.t 44,.const (.str [59])]] [0,44,45]))))))) [3] (.seq (.g [.m 47 (.t 0),.c 48 14 [.t 47,.const (.str [105,102])],
 .m 46 (.t 48)] [47,48]) (.cond (.T 46) [] (.seq (.g [.m 49 (.t 0),.o 50 .nilCheck [.t 49],.f 51 1 (.T 50),
 .d 52 (.T 51),.o 53 (.bin .add) [.t 52,.i 1],.o 54 .nilCheck [.t 49],.f 55 1 (.T 54),
 .n (.store 1) [.T 55,.t 53]] [49,52,53]) (.seq (.g [.f 56 0 (.t 4),.n (.ag 2 1) [.t 56,.i 5]] [56]) (.seq
 (.g [.m 57 (.t 0),.c 58 96 [.t 57,.i 0],
 .o 59 (.lit 11 1 [.i 0,.i 0,.str [],.str [],.i 0,.U,.i 0,.i 0,.i 0,.i 0,.i 0] [0]) [.T 58],
 .f 60 4 (.t 4),.n (.ag 2 1) [.t 60,.T 59]] [57,60]) (.seq (.g [.m 61 (.t 0),.c 62 40 [.t 61],
 .f 63 5 (.t 4),.n (.ag 2 1) [.t 63,.T 62]] [61,63]) (.seq (.g [.m 64 (.t 0),
 .c 65 14 [.t 64,.const (.str [101,108,115,101])]] [64]) (.cond (.T 65) [] (.seq (.g [.m 66 (.t 0),.o 67 .nilCheck [.t 66],
 .f 68 1 (.T 67),.d 69 (.T 68),.o 70 (.bin .add) [.t 69,.i 1],.o 71 .nilCheck [.t 66],
 .f 72 1 (.T 71),.n (.store 1) [.T 72,.t 70]] [66,69,70]) (.g [.m 73 (.t 0),.c 74 40 [.t 73],
 .f 75 6 (.t 4),.n (.ag 2 1) [.t 75,.T 74]] [0,73,75])) [0] .skip)))))) [] (.seq (.g [.m 77 (.t 0),
 .c 78 14 [.t 77,.const (.str [119,104,105,108,101])],.m 76 (.t 78)] [77,78]) (.cond (.T 76) [] (.seq (.g [.m 79 (.t 0),
 .o 80 .nilCheck [.t 79],.f 81 1 (.T 80),.d 82 (.T 81),.o 83 (.bin .add) [.t 82,.i 1],
 .o 84 .nilCheck [.t 79],.f 85 1 (.T 84),.n (.store 1) [.T 85,.t 83]] [79,82,83]) (.seq (.g [.f 86 0 (.t 4),
 .n (.ag 2 1) [.t 86,.i 6]] [86]) (.seq (.g [.m 87 (.t 0),.c 88 96 [.t 87,.i 0],
 .o 89 (.lit 11 1 [.i 0,.i 0,.str [],.str [],.i 0,.U,.i 0,.i 0,.i 0,.i 0,.i 0] [0]) [.T 88],
 .f 90 4 (.t 4),.n (.ag 2 1) [.t 90,.T 89]] [87,90]) (.g [.m 91 (.t 0),.c 92 40 [.t 91],
 .f 93 5 (.t 4),.n (.ag 2 1) [.t 93,.T 92]] [0,91,93])))) [] (.seq (.g [.m 95 (.t 0),
 .c 96 14 [.t 95,.const (.str [114,101,116,117,114,110])],.m 94 (.t 96)] [95,96]) (.cond (.T 94) [] (.seq (.g [.m 97 (.t 0),
 .o 98 .nilCheck [.t 97],.f 99 1 (.T 98),.d 100 (.T 99),.o 101 (.bin .add) [.t 100,.i 1],
 .o 102 .nilCheck [.t 97],.f 103 1 (.T 102),.n (.store 1) [.T 103,.t 101]] [97,100,101]) (.seq (.g [.f 104 0 (.t 4),
 .n (.ag 2 1) [.t 104,.i 7]] [104]) (.seq (.seq (.g [.m 105 (.t 0),.c 106 14 [.t 105,.const (.str [59])],
 .o 107 (.un .not) [.t 106]] [105,106]) (.cond (.T 107) [] (.g [.m 108 (.t 0),.c 109 96 [.t 108,.i 0],
 .o 110 (.lit 11 1 [.i 0,.i 0,.str [],.str [],.i 0,.U,.i 0,.i 0,.i 0,.i 0,.i 0] [0]) [.T 109],
 .f 111 4 (.t 4),.n (.ag 2 1) [.t 111,.T 110]] [108,111]) [] .skip)) (.g [.m 112 (.t 0),
 .c 113 18 [.t 112,.const (.str [59])]] [0,112,113])))) [] (.seq (.g [.m 115 (.t 0),
 .c 116 14 [.t 115,.const (.str [112,114,105,110,116])],.m 114 (.t 116)] [115,116]) (.cond (.T 114) [] (.seq (.g [
 .m 117 (.t 0),.o 118 .nilCheck [.t 117],.f 119 1 (.T 118),.d 120 (.T 119),
 .o 121 (.bin .add) [.t 120,.i 1],.o 122 .nilCheck [.t 117],.f 123 1 (.T 122),
 .n (.store 1) [.T 123,.t 121]] [117,120,121]) (.seq (.g [.f 124 0 (.t 4),.n (.ag 2 1) [.t 124,.i 8]] [124])
 (.seq (.g [.m 125 (.t 0),.c 126 96 [.t 125,.i 0],
 .o 127 (.lit 11 1 [.i 0,.i 0,.str [],.str [],.i 0,.U,.i 0,.i 0,.i 0,.i 0,.i 0] [0]) [.T 126],
 .f 128 4 (.t 4),.n (.ag 2 1) [.t 128,.T 127]] [125,128]) (.g [.m 129 (.t 0),
 .c 130 18 [.t 129,.const (.str [59])]] [0,129,130])))) [] (.seq (.g [.m 10 (.t 0),.o 11 (.aj 2 true 9 false) [.t 4],
 .c 12 97 [.t 10,.T 11],.n (.ag 0 9) [.t 2,.T 12]] [0,4,10]) .ret)))))))))))) (.seq (.g [.o 131 (.aj 2 true 9 false) [.t 4],
 .n (.ag 0 9) [.t 2,.T 131]] [4]) .ret))))) }
def s75:aC:={ eL:=75,mode:=.lS,nparams:=2,aJ:=0,dc:=[],results:=[],body:=
 (.seq (.g [.m 4 (.t 0),.m 5 (.t 1),.c 6 18 [.t 4,.t 5]] [1,4,5,6]) (.g [.m 7 (.t 0),.o 8 .nilCheck [.t 7],
 .f 9 2 (.T 8),.d 10 (.T 9),.o 11 (.bin .sub) [.t 10,.i 1],.o 12 .nilCheck [.t 7],
 .f 13 2 (.T 12),.n (.store 1) [.T 13,.t 11]] [0,7,10,11])) }
def P2:bG:=
 (.seq (.g [.o 13 (.bin .lss) [.t 12,.t 11]] []) (.seq (.cond (.T 13) [] .skip [10,11,12] (.exit 0)) (.seq (.block 1 (.seq (.g [
 .o 14 (.indexAddr 3) [.t 10,.t 12],.o 15 (.load true 3 false) [.T 14],.o 6 (.aE 0 [.str [],.U,.i 0]) [],
 .n (.ag 0 3) [.t 6,.T 15]] []) (.seq (.seq (.r [.m 16 (.t 0),.o 17 .nilCheck [.t 16],.f 18 0 (.T 17),
 .d 19 (.T 18),.f 20 0 (.t 6),.l 21 0 (.t 20),
 .c 22 98 [.T 19,.t 21]] (some []) [16,20,21]) (.cond (.T 22) [] (.g [.m 23 (.t 0),.f 24 2 (.t 6),
 .l 25 0 (.t 24),.c 26 81 [.t 23,.t 25]] [23,24,25,26]) [] .skip)) (.r [.m 27 (.t 0),.m 28 (.t 0),
 .o 29 .nilCheck [.t 28],.f 30 0 (.T 29),.o 31 (.load false 1 true) [.T 30],.f 32 0 (.t 6),
 .l 33 0 (.t 32),.o 34 (.lit 1 1 [.str []] [0]) [.t 33],.o 35 (.append 1 16) [.T 31,.T 34],.o 36 .nilCheck [.t 27],
 .f 37 0 (.T 36),.n (.store 1) [.T 37,.T 35]] (some []) [6,27,28,32,33])))) (.g [.o 38 (.bin .add) [.t 12,.i 1],
 .m 12 (.t 38)] [38]))))
def P4:bG:=
 (.seq (.g [.o 42 (.bin .lss) [.t 41,.t 40]] []) (.seq (.cond (.T 42) [] .skip [0,39,40,41] (.exit 2)) (.seq (.block 3 (.seq (.g [
 .o 43 (.indexAddr 3) [.t 39,.t 41],.o 44 (.load true 3 false) [.T 43],.o 9 (.aE 1 [.str [],.U,.i 0]) [],
 .n (.ag 1 3) [.t 9,.T 44]] []) (.r [.m 45 (.T 7),.f 46 0 (.t 9),.l 47 1 (.t 46),
 .m 48 (.t 0),.f 49 1 (.t 9),.l 50 1 (.t 49),.c 51 77 [.t 48,.T 50],
 .o 52 (.build [.str [],.U] [(0,1),(1,1)]) [.t 47,.T 51],.o 53 (.lit 2 1 [.str [],.U] [0]) [.T 52],.o 54 (.append 2 40) [.T 45,.T 53],
 .m 7 (.T 54)] (some []) [9,46,47,48,49]))) (.g [.o 55 (.bin .add) [.t 41,.i 1],.m 41 (.t 55)] [55]))))
def s76:aC:={ eL:=76,mode:=.lS,nparams:=2,aJ:=2,dc:=[],results:=[.tmp 4 true],body:=
 (.seq (.g [.o 4 .move [.const .U]] [4]) (.seq (.seq (.g [.m 10 (.t 1),.o 11 (.len .sl) [.t 10],
 .m 12 (.i 0)] []) (.block 0 (.loop P2))) (.seq (.g [.o 7 .move [.const .U]] []) (.seq (.seq (.g [
 .m 39 (.T 1),.o 40 (.len .sl) [.t 39],.m 41 (.i 0)] []) (.block 2 (.loop P4))) (.seq (.g [.m 56 (.T 7),
 .m 4 (.T 56)] []) .ret))))) }
def P6:bG:=
 (.seq (.g [.o 15 (.bin .lss) [.t 14,.t 13]] []) (.seq (.cond (.T 15) [] .skip [0,6,12,13,14] (.exit 0)) (.seq (.block 1 (.seq (.g [
 .o 16 (.indexAddr 4) [.t 12,.t 14],.o 17 (.load true 4 false) [.T 16],.o 8 (.aE 0 [.str [],.str [],.i 0,.i 0]) [],
 .n (.ag 0 4) [.t 8,.t 17]] [17]) (.seq (.seq (.g [.m 19 (.t 6),.f 20 0 (.t 8),.l 21 0 (.t 20),
 .o 22 (.lookup .str (.agg []) true) [.t 19,.t 21],.m 18 (.T 22),.o 23 (.extract 0) [.t 18],.o 24 (.extract 1) [.T 18],.o 9 (.aE 1 []) [],
 .n (.ag 1 0) [.t 9,.t 23],.m 10 (.t 24)] [9,19,20,21,23,24]) (.seq (.g [.m 25 (.t 10)] [10]) (.cond (.T 25) [] (.g [
 .m 26 (.t 0),.f 27 3 (.t 8),.l 28 0 (.t 27),.c 29 81 [.t 26,.t 28]] [26,27,28,29]) [] .skip))) (.seq
 (.g [.m 30 (.t 6),.f 31 0 (.t 8),.l 32 0 (.t 31),.o 33 (.build [] []) [],
 .n (.mapUpdate .str) [.t 30,.t 32,.t 33]] [30,31,32,33]) (.r [.m 34 (.T 5),.f 35 0 (.t 8),
 .l 36 0 (.t 35),.m 37 (.t 0),.f 38 1 (.t 8),.o 39 (.aj 0 true 2 false) [.t 38],.f 40 3 (.t 8),
 .l 41 0 (.t 40),.c 42 99 [.t 37,.t 39,.t 41],
 .o 43 (.build [.str [],.i 0,.i 0,.i 0] [(0,1),(1,3)]) [.t 36,.t 42],
 .o 44 (.lit 4 1 [.str [],.i 0,.i 0,.i 0] [0]) [.t 43],.o 45 (.append 4 40) [.T 34,.T 44],
 .m 5 (.T 45)] (some []) [8,35,36,37,38,39,40,41,42,43]))))) (.g [.o 46 (.bin .add) [.t 14,.i 1],
 .m 14 (.t 46)] [46]))))
def s77:aC:={ eL:=77,mode:=.lS,nparams:=2,aJ:=2,dc:=[],results:=[.tmp 4 true],body:=
 (.seq (.g [.o 4 .move [.const .U]] [4]) (.seq (.g [.o 5 .move [.const .U]] []) (.seq (.g [.o 11 .makeMap [],
 .m 6 (.t 11)] [11]) (.seq (.seq (.g [.m 12 (.T 1),.o 13 (.len .sl) [.t 12],.m 14 (.i 0)] []) (.block 0
 (.loop P6))) (.seq (.g [.m 47 (.T 5),.m 4 (.T 47)] []) .ret))))) }
def P7:bG:=
 (.seq (.g [.o 16 (.bin .lss) [.t 15,.t 14]] []) (.seq (.cond (.T 16) [] .skip [0,6,13,14,15] (.exit 0)) (.seq (.block 1 (.seq (.g [
 .o 17 (.indexAddr 7) [.t 13,.t 15],.o 18 (.load true 7 false) [.T 17],
 .o 8 (.aE 0 [.str [],.U,.bool false,.str [],.i 0,.U,.i 0]) [],.n (.ag 0 7) [.t 8,.T 18]] []) (.seq (.seq (.g [
 .m 20 (.t 6),.f 21 0 (.t 8),.l 22 0 (.t 21),.o 23 (.lookup .str (.agg []) true) [.t 20,.t 22],
 .m 19 (.T 23),.o 24 (.extract 0) [.t 19],.o 25 (.extract 1) [.T 19],.o 9 (.aE 1 []) [],.n (.ag 1 0) [.t 9,.t 24],
 .m 10 (.t 25)] [9,20,21,22,24,25]) (.seq (.g [.m 26 (.t 10)] [10]) (.cond (.T 26) [] (.g [.m 27 (.t 0),
 .f 28 6 (.t 8),.l 29 0 (.t 28),.c 30 81 [.t 27,.t 29]] [27,28,29,30]) [] .skip))) (.seq (.g [
 .m 31 (.t 6),.f 32 0 (.t 8),.l 33 0 (.t 32),.o 34 (.build [] []) [],
 .n (.mapUpdate .str) [.t 31,.t 33,.t 34]] [31,32,33,34]) (.seq (.r [.f 35 0 (.t 8),.l 36 0 (.t 35),
 .m 37 (.t 0),.f 38 1 (.t 8),.l 39 0 (.t 38),.c 40 77 [.t 37,.T 39],.f 41 2 (.t 8),
 .l 42 0 (.t 41),
 .o 43 (.build [.str [],.U,.bool false,.i 0,.i 0,.i 0] [(0,1),(1,1),(2,1)]) [.t 36,.T 40,.t 42],
 .o 11 (.aE 2 [.str [],.U,.bool false,.i 0,.i 0,.i 0]) [],.n (.ag 2 6) [.t 11,.T 43]] (some []) [35,36,37,38,41,42]) (.seq
 (.seq (.g [.f 44 2 (.t 8),.l 45 0 (.t 44)] [44]) (.cond (.T 45) [] (.g [.m 46 (.t 0),
 .f 47 3 (.t 8),.o 48 (.aj 0 true 2 false) [.t 47],.f 49 6 (.t 8),.l 50 0 (.t 49),
 .c 51 99 [.t 46,.t 48,.t 50],.f 52 3 (.t 11),.n (.ag 2 3) [.t 52,.t 51]] [8,46,47,48,49,50,51,52]) [8] .skip)) (.g [
 .m 53 (.T 5),.o 54 (.aj 2 true 6 false) [.t 11],.o 55 (.lit 6 1 [.str [],.U,.bool false,.i 0,.i 0,.i 0] [0]) [.T 54],
 .o 56 (.append 6 72) [.T 53,.T 55],.m 5 (.T 56)] [11]))))))) (.g [.o 57 (.bin .add) [.t 15,.i 1],
 .m 15 (.t 57)] [57]))))
def s78:aC:={ eL:=78,mode:=.lS,nparams:=2,aJ:=3,dc:=[],results:=[.tmp 4 true],body:=
 (.seq (.g [.o 4 .move [.const .U]] [4]) (.seq (.g [.o 5 .move [.const .U]] []) (.seq (.g [.o 12 .makeMap [],
 .m 6 (.t 12)] [12]) (.seq (.seq (.g [.m 13 (.T 1),.o 14 (.len .sl) [.t 13],.m 15 (.i 0)] []) (.block 0
 (.loop P7))) (.seq (.g [.m 58 (.T 5),.m 4 (.T 58)] []) .ret))))) }
def Jx:bG:=
 (.seq (.g [.o 9 (.bin .lss) [.t 8,.t 7]] []) (.seq (.cond (.T 9) [] .skip [0,1,7,8] (.exit 0)) (.seq (.block 1 (.seq (.g [.m 10 (.t 8),
 .m 5 (.t 10)] [10]) (.seq (.g [.m 11 (.t 1),.m 12 (.t 0),.m 13 (.t 5),.o 14 (.indexAddr 6) [.T 12,.t 13],
 .o 15 (.load true 6 false) [.T 14],.o 16 .oV [.t 11,.T 15]] [11,13]) (.cond (.T 16) [0,1,7,8] (.seq (.g [.m 17 (.t 5),
 .m 4 (.t 17)] [5,17]) .ret) [5] .skip)))) (.g [.o 18 (.bin .add) [.t 8,.i 1],.m 8 (.t 18)] [18]))))
def s79:aC:={ eL:=79,mode:=.lS,nparams:=2,aJ:=0,dc:=[],results:=[.tmp 4 false],body:=
 (.seq (.g [.m 4 (.i 0)] [4]) (.seq (.seq (.g [.m 6 (.t 0),.o 7 (.len .sl) [.T 6],
 .m 8 (.i 0)] []) (.block 0 (.loop Jx))) (.seq (.g [.o 4 .move [.const (.i (-1))]] []) .ret))) }
def s80:aC:={ eL:=80,mode:=.pure,nparams:=1,aJ:=1,dc:=[],results:=[.tmp 2 false],body:=
 (.seq (.g [.o 1 (.dW 0 6) [.T 0],.m 2 (.b false)] [2]) (.seq (.g [.f 3 0 (.t 1),
 .l 4 0 (.t 3),.o 5 (.bin .eql) [.t 4,.const (.str [109,97,105,110])],.m 6 (.t 5),.y 7 (.fieldAddr 1) [.t 1] 6,
 .y 8 (.aj 0 false 1 false) [.t 7] 6,.y 9 (.len .sl) [.T 8] 6,.y 10 (.bin .eql) [.t 9,.i 0] 6,
 .o 11 .pick [.t 6,.t 10,.b false],.m 12 (.t 11),.y 13 (.fieldAddr 2) [.t 1] 12,.y 14 (.aj 0 false 1 false) [.t 13] 12,
 .y 15 (.un .not) [.t 14] 12,.o 16 .pick [.t 12,.t 15,.b false],.m 2 (.t 16)] [1,3,4,5,6,7,8,9,10,11,12,13,14,15,16]) .ret)) }
def s81:aC:={ eL:=81,mode:=.lS,nparams:=2,aJ:=0,dc:=[],results:=[],body:=
 (.seq (.g [.m 4 (.t 0),.o 5 .nilCheck [.t 4],.f 6 1 (.T 5),.f 7 0 (.T 6),.d 8 (.T 7),
 .o 9 (.bin .eql) [.t 8,.i 0]] [4,8]) (.cond (.T 9) [] (.g [.m 10 (.t 0),.m 11 (.t 1),
 .o 12 (.build [.i 0,.i 0] [(0,1),(1,1)]) [.i 3,.t 11],.o 13 .nilCheck [.t 10],.f 14 1 (.T 13),
 .n (.store 2) [.T 14,.t 12]] [0,1,10,11,12]) [0,1] .skip)) }
def s82:aC:={ eL:=82,mode:=.pure,nparams:=1,aJ:=0,dc:=[],results:=[.tmp 2 true],body:=
 (.seq (.g [.o 2 .move [.const .U]] [2]) (.seq (.seq (.g [.m 3 (.t 0),.o 4 (.eqv .sl false) [.T 3,.const .U]] [])
 (.cond (.T 4) [0] (.seq (.g [.o 2 .move [.const .U]] []) .ret) [] .skip)) (.seq (.g [
 .o 5 (.lit 4 0 [.str [],.i 0,.i 0,.i 0] []) [],.m 6 (.T 0),.o 7 (.append 4 40) [.T 5,.T 6],.m 2 (.T 7)] []) .ret))) }
def BM:bG:=
 (.seq (.g [.o 11 (.bin .lss) [.t 10,.t 9]] []) (.seq (.cond (.T 11) [] .skip [0,8,9,10] (.exit 0)) (.seq (.block 1 (.seq (.g [
 .o 12 (.indexAddr 9) [.t 8,.t 10],.o 13 (.load true 9 false) [.T 12],
 .o 7 (.aE 0 [.i 0,.str [],.str [],.i 0,.U,.U,.U,.i 0,.i 0]) [],.n (.ag 0 9) [.t 7,.T 13]] []) (.seq
 (.seq (.g [.m 14 (.t 0),.c 15 43 [.t 14]] [14]) (.cond (.T 15) [0,5,7,8,9,10] (.seq (.g [.o 4 .move [.const .U]] [])
 .ret) [] .skip)) (.g [.m 16 (.T 5),.m 17 (.t 0),.o 18 (.aj 0 true 9 false) [.t 7],.c 19 100 [.t 17,.T 18],
 .o 20 (.lit 9 1 [.i 0,.str [],.str [],.i 0,.U,.U,.U,.i 0,.i 0] [0]) [.T 19],.o 21 (.append 9 136) [.T 16,.T 20],
 .m 5 (.T 21)] [7,17])))) (.g [.o 22 (.bin .add) [.t 10,.i 1],.m 10 (.t 22)] [22]))))
def Wf:aC:={ eL:=83,mode:=.lS,nparams:=2,aJ:=1,dc:=[],results:=[.tmp 4 true],body:=
 (.seq (.g [.o 4 .move [.const .U]] [4]) (.seq (.g [.o 5 .move [.const .U]] []) (.seq (.seq (.g [.m 8 (.T 1),
 .o 9 (.len .sl) [.t 8],.m 10 (.i 0)] []) (.block 0 (.loop BM))) (.seq (.g [.m 23 (.T 5),
 .m 4 (.T 23)] []) .ret)))) }
def s84:aC:={ eL:=84,mode:=.CP,nparams:=1,aJ:=0,dc:=[],results:=[.tmp 2 true],body:=
 (.seq (.g [.o 2 .move [.const .U]] [2]) (.seq (.seq (.g [.m 3 (.t 0),.o 4 (.Kj false) [.T 3,.const .U]] [])
 (.cond (.T 4) [0] (.seq (.g [.o 2 .move [.const .U]] []) .ret) [] .skip)) (.seq (.g [.o 5 (.lit 1 0 [.bool false] []) [],
 .m 6 (.T 0),.o 7 (.lT 1 1) [.T 5,.T 6],.m 2 (.T 7)] []) .ret))) }
def Jy:bG:=
 (.seq (.g [.o 17 (.bin .lss) [.t 16,.t 15]] []) (.seq (.cond (.T 17) [] .skip [14,15,16] (.exit 0)) (.seq (.block 1 (.seq (.g [
 .o 18 (.indexAddr 11) [.t 14,.t 16],.o 19 (.load true 11 false) [.T 18],
 .o 8 (.aE 1 [.i 0,.i 0,.str [],.str [],.i 0,.U,.i 0,.i 0,.i 0,.i 0,.i 0]) [],
 .n (.ag 1 11) [.t 8,.T 19]] []) (.g [.m 20 (.t 0),.o 21 (.aj 1 true 11 false) [.t 8],.m 22 (.t 2),
 .c 23 101 [.t 20,.T 21,.T 22]] [8,20,23]))) (.g [.o 24 (.bin .add) [.t 16,.i 1],.m 16 (.t 24)] [24]))))
def P8:bG:=
 (.seq (.g [.o 48 (.bin .lss) [.t 47,.t 46]] []) (.seq (.cond (.T 48) [] .skip [46,47] (.exit 3)) (.seq (.block 4 (.seq (.g [
 .m 49 (.t 47),.m 9 (.t 49)] [49]) (.g [.m 50 (.t 2),.m 51 (.t 9),.o 52 (.indexAddr 1) [.T 50,.t 51],
 .n (.store 1) [.T 52,.b true]] [9,51]))) (.g [.o 53 (.bin .add) [.t 47,.i 1],.m 47 (.t 53)] [53]))))
def P9:bG:=
 (.seq (.g [.o 76 (.bin .lss) [.t 75,.t 74]] []) (.seq (.cond (.T 76) [] .skip [10,11,74,75] (.exit 5)) (.seq (.block 6 (.seq (.g [
 .m 77 (.t 75),.m 12 (.t 77)] [77]) (.g [.m 78 (.t 2),.m 79 (.t 12),.m 80 (.t 10),.m 81 (.t 12),
 .o 82 (.indexAddr 1) [.T 80,.t 81],.d 83 (.T 82),.m 84 (.t 83),.y 85 .move [.t 11] 84,.y 86 .move [.t 12] 84,
 .y 87 (.indexAddr 1) [.T 85,.t 86] 84,.y 88 (.load false 1 false) [.T 87] 84,.o 89 .pick [.t 84,.t 88,.b false],
 .o 90 (.indexAddr 1) [.T 78,.t 79],.n (.store 1) [.T 90,.t 89]] [12,79,81,83,84,85,86,87,88,89]))) (.g [
 .o 91 (.bin .add) [.t 75,.i 1],.m 75 (.t 91)] [91]))))
def Hl:aC:={ eL:=85,mode:=.CP,nparams:=3,aJ:=2,dc:=[],results:=[.tmp 6 true],body:=
 (.seq (.g [.o 4 (.dW 0 9) [.T 1],.o 6 .move [.const .U]] [6]) (.seq (.seq (.g [.f 13 4 (.t 4),
 .l 14 0 (.t 13),.o 15 (.len .sl) [.t 14],.m 16 (.i 0)] [13]) (.block 0 (.loop Jy))) (.seq (.seq
 (.g [.f 25 0 (.t 4),.l 26 0 (.t 25)] [25]) (.block 2 (.seq (.g [
 .o 28 (.bin .eql) [.t 26,.i 1],.m 27 (.t 28)] [28]) (.cond (.T 27) [0,26] (.g [.m 29 (.t 2),
 .f 30 8 (.t 4),.l 31 0 (.t 30),.o 32 (.indexAddr 1) [.T 29,.t 31],
 .n (.store 1) [.T 32,.b false]] [4,30,31]) [] (.seq (.seq (.g [.o 34 (.bin .eql) [.t 26,.i 2],
 .m 33 (.t 34)] [34]) (.cond (.t 33) [] .skip [33] (.g [.o 35 (.bin .eql) [.t 26,.i 3],.m 33 (.t 35)] [35])))
 (.cond (.T 33) [0,26] (.seq (.g [.f 36 8 (.t 4),.l 37 0 (.t 36),
 .o 38 (.bin .geq) [.t 37,.i 0]] [36,37]) (.cond (.T 38) [] (.g [.m 39 (.t 2),.f 40 8 (.t 4),
 .l 41 0 (.t 40),.o 42 (.indexAddr 1) [.T 39,.t 41],.n (.store 1) [.T 42,.b true]] [4,40,41]) [4] .skip)) [] (.seq
 (.g [.o 44 (.bin .eql) [.t 26,.i 7],.m 43 (.t 44)] [44]) (.cond (.T 43) [0,4,26] (.seq (.g [.m 45 (.t 2),
 .o 46 (.len .sl) [.T 45],.m 47 (.i 0)] []) (.block 3 (.loop P8))) [] (.seq (.g [
 .o 55 (.bin .eql) [.t 26,.i 6],.m 54 (.t 55)] [55]) (.cond (.T 54) [26] (.g [.m 56 (.t 0),
 .f 57 5 (.t 4),.l 58 0 (.t 57),.m 59 (.t 2),.c 60 44 [.t 56,.T 58,.T 59]] [0,4,56,57,60]) [] (.seq
 (.g [.o 62 (.bin .eql) [.t 26,.i 5],.m 61 (.t 62)] [26,62]) (.cond (.T 61) [] (.seq (.r [.m 63 (.t 0),
 .f 64 5 (.t 4),.l 65 0 (.t 64),.m 66 (.t 2),.c 67 44 [.t 63,.T 65,.T 66],.m 68 (.t 0),
 .f 69 6 (.t 4),.l 70 0 (.t 69),.m 71 (.t 2),.c 72 44 [.t 68,.T 70,.T 71],.m 10 (.T 67),
 .m 11 (.T 72)] (some []) [0,4,63,64,68,69]) (.seq (.g [.m 73 (.t 2),.o 74 (.len .sl) [.T 73],.m 75 (.i 0)] [])
 (.block 5 (.loop P9)))) [0,4] .skip)))))))))))) (.seq (.g [.m 92 (.T 2),.m 6 (.T 92)] []) .ret)))) }
def ER:aC:={ eL:=86,mode:=.CP,nparams:=2,aJ:=1,dc:=[],results:=[],body:=
 (.seq (.g [.o 3 (.dW 0 9) [.T 1]] []) (.seq (.g [.f 5 0 (.t 3),.l 6 0 (.t 5)] [5]) (.block 0
 (.seq (.seq (.g [.o 8 (.bin .eql) [.t 6,.i 2],.m 7 (.t 8)] [8]) (.cond (.t 7) [] .skip [7] (.g [
 .o 9 (.bin .eql) [.t 6,.i 3],.m 7 (.t 9)] [9]))) (.cond (.T 7) [6] (.g [.m 10 (.t 0),
 .o 11 (.aj 0 true 9 false) [.t 3],.c 12 102 [.t 10,.T 11]] [0,3,10,12]) [] (.seq (.g [.o 14 (.bin .eql) [.t 6,.i 4],
 .m 13 (.t 14)] [14]) (.cond (.T 13) [6] (.g [.m 15 (.t 0),.o 16 (.aj 0 true 9 false) [.t 3],
 .c 17 103 [.t 15,.T 16]] [0,3,15,17]) [] (.seq (.g [.o 19 (.bin .eql) [.t 6,.i 5],.m 18 (.t 19)] [19])
 (.cond (.T 18) [6] (.g [.m 20 (.t 0),.o 21 (.aj 0 true 9 false) [.t 3],.c 22 104 [.t 20,.T 21]] [0,3,20,22]) [] (.seq (.g [
 .o 24 (.bin .eql) [.t 6,.i 6],.m 23 (.t 24)] [24]) (.cond (.T 23) [6] (.g [.m 25 (.t 0),
 .o 26 (.aj 0 true 9 false) [.t 3],.c 27 105 [.t 25,.T 26]] [0,3,25,27]) [] (.seq (.g [.o 29 (.bin .eql) [.t 6,.i 7],
 .m 28 (.t 29)] [29]) (.cond (.T 28) [6] (.seq (.g [.o 4 .move [.const (.i (-1))]] []) (.seq (.seq (.g [
 .f 30 4 (.t 3),.l 31 0 (.t 30),.o 32 (.len .sl) [.T 31],.o 33 (.bin .gtr) [.t 32,.i 0]] [30,32])
 (.cond (.T 33) [4] (.g [.m 34 (.t 0),.f 35 4 (.t 3),.l 36 0 (.t 35),
 .o 37 (.indexAddr 11) [.T 36,.i 0],.o 38 (.load true 11 false) [.T 37],.c 39 106 [.t 34,.T 38],
 .m 4 (.t 39)] [3,34,35,39]) [3] .skip)) (.g [.m 40 (.t 0),.m 41 (.t 4),
 .o 42 (.build [.i 0,.i 0,.i 0,.i 0,.i 0,.U] [(0,1),(1,1)]) [.i 18,.t 41],
 .c 43 48 [.t 40,.T 42]] [0,4,40,41,43]))) [] (.seq (.g [.o 45 (.bin .eql) [.t 6,.i 8],.m 44 (.t 45)] [45])
 (.cond (.T 44) [6] (.g [.m 46 (.t 0),.m 47 (.t 0),.f 48 4 (.t 3),.l 49 0 (.t 48),
 .o 50 (.indexAddr 11) [.T 49,.i 0],.o 51 (.load true 11 false) [.T 50],.c 52 106 [.t 47,.T 51],
 .o 53 (.build [.i 0,.i 0,.i 0,.i 0,.i 0,.U] [(0,1),(1,1)]) [.i 15,.t 52],
 .c 54 48 [.t 46,.T 53]] [0,3,46,47,48,52,54]) [] (.seq (.g [.o 56 (.bin .eql) [.t 6,.i 9],
 .m 55 (.t 56)] [6,56]) (.cond (.T 55) [] (.g [.m 57 (.t 0),.f 58 4 (.t 3),.l 59 0 (.t 58),
 .o 60 (.indexAddr 11) [.T 59,.i 0],.o 61 (.load true 11 false) [.T 60],.c 62 106 [.t 57,.T 61]] [0,3,57,58,62]) [0,3]
 .skip))))))))))))))))) }
def s95:aC:={ eL:=95,mode:=.pure,nparams:=0,aJ:=0,dc:=[],results:=[.tmp 0 true],body:=
 (.seq (.g [.o 0 .move [.const .U]] [0]) (.seq (.g [
 .o 1 (.lit 1 18 [.str []] [0,1,2,3,4,5,6,7,8,9,10,11,12,13,14,15,16,17]) [.const (.str [114,101,99,111,114,100]),.const (.str [103,108,111,98,97,108]),.const (.str [102,117,110,99]),.const (.str [118,97,114]),.const (.str [108,101,116]),.const (.str [105,102]),.const (.str [101,108,115,101]),.const (.str [119,104,105,108,101]),.const (.str [114,101,116,117,114,110]),.const (.str [112,114,105,110,116]),.const (.str [110,117,108,108]),.const (.str [110,101,119]),.const (.str [108,101,110]),.const (.str [114,101,97,100]),.const (.str [116,114,117,101]),.const (.str [102,97,108,115,101]),.const (.str [105,110,116]),.const (.str [98,111,111,108])],
 .m 0 (.T 1)] []) .ret)) }
def Qa:bG:=
 (.seq (.seq (.g [.m 16 (.t 0),.c 17 12 [.t 16],.m 18 (.t 17),.y 19 .move [.t 1] 18,.y 20 .move [.t 0] 18,
 .y 21 (.call 13) [.t 20] 18,.y 22 (.call 116) [.t 19,.t 21] 18,.y 23 (.bin .neq) [.t 22,.i 0] 18,
 .o 24 .pick [.t 18,.t 23,.b false]] [16,17,18,19,20,21,22,23]) (.cond (.T 24) [] .skip [0,1] (.exit 0))) (.block 1 (.seq (.g [
 .m 25 (.t 0),.c 26 13 [.t 25],.o 6 (.aE 2 [.i 0,.str [],.i 0,.i 0]) [],.n (.ag 2 4) [.t 6,.t 26]] [25,26])
 (.seq (.g [.m 27 (.t 0),.o 28 .nilCheck [.t 27],.f 29 1 (.T 28),.d 30 (.T 29),
 .o 31 (.bin .add) [.t 30,.i 1],.o 32 .nilCheck [.t 27],.f 33 1 (.T 32),.n (.store 1) [.T 33,.t 31]] [27,30,31]) (.seq
 (.g [.m 34 (.t 0),.m 35 (.t 1),.o 36 (.bin .add) [.t 35,.i 1],.c 37 96 [.t 34,.t 36],
 .o 7 (.aE 3 [.i 0,.i 0,.str [],.str [],.i 0,.U,.i 0,.i 0,.i 0,.i 0,.i 0]) [],
 .n (.ag 3 11) [.t 7,.T 37]] [34,35,36]) (.r [.m 38 (.t 1),.o 39 (.aj 2 true 4 false) [.t 6],.c 40 116 [.t 38,.t 39],
 .o 41 (.aj 1 true 11 false) [.t 5],.o 42 (.aj 3 true 11 false) [.t 7],
 .o 43 (.lit 11 2 [.i 0,.i 0,.str [],.str [],.i 0,.U,.i 0,.i 0,.i 0,.i 0,.i 0] [0,1]) [.T 41,.T 42],
 .f 44 3 (.t 6),.l 45 2 (.t 44),
 .o 46 (.build [.i 0,.i 0,.str [],.str [],.i 0,.U,.i 0,.i 0,.i 0,.i 0,.i 0] [(0,1),(5,1),(6,1)]) [.t 40,.T 43,.t 45],
 .n (.ag 1 11) [.t 5,.T 46]] (some []) [6,7,38,39,40,44,45]))))))
def s96:aC:={ eL:=96,mode:=.lS,nparams:=2,aJ:=4,dc:=[],results:=[.box 4 0 11 true],body:=
 (.seq (.g [
 .o 4 (.aE 0 [.i 0,.i 0,.str [],.str [],.i 0,.U,.i 0,.i 0,.i 0,.i 0,.i 0]) []] []) (.seq
 (.seq (.g [.m 8 (.t 1),.o 9 (.bin .eql) [.t 8,.i 5]] [8]) (.cond (.T 9) [1] (.seq (.g [.m 10 (.t 0),
 .c 11 115 [.t 10],.n (.ag 0 11) [.t 4,.T 11]] [0,10]) .ret) [] .skip)) (.seq (.g [.m 12 (.t 0),.m 13 (.t 1),
 .o 14 (.bin .add) [.t 13,.i 1],.c 15 96 [.t 12,.t 14],
 .o 5 (.aE 1 [.i 0,.i 0,.str [],.str [],.i 0,.U,.i 0,.i 0,.i 0,.i 0,.i 0]) [],
 .n (.ag 1 11) [.t 5,.T 15]] [12,13,14]) (.seq (.block 0 (.loop Qa)) (.seq (.g [.o 47 (.aj 1 true 11 false) [.t 5],
 .n (.ag 0 11) [.t 4,.T 47]] [5]) .ret))))) }
def Wg:aC:={ eL:=97,mode:=.lS,nparams:=2,aJ:=4,dc:=[],results:=[.box 4 1 9 true],body:=
 (.seq (.g [.o 3 (.dW 0 9) [.T 1],.o 4 (.aE 1 [.i 0,.str [],.str [],.i 0,.U,.U,.U,.i 0,.i 0]) []] [])
 (.seq (.g [.m 7 (.t 0),.c 8 96 [.t 7,.i 0],
 .o 5 (.aE 2 [.i 0,.i 0,.str [],.str [],.i 0,.U,.i 0,.i 0,.i 0,.i 0,.i 0]) [],
 .n (.ag 2 11) [.t 5,.T 8]] [7]) (.seq (.seq (.g [.m 9 (.t 0),.c 10 14 [.t 9,.const (.str [61])],
 .o 11 (.un .not) [.t 10]] [9,10]) (.cond (.T 11) [] (.seq (.g [.f 12 0 (.t 3),
 .n (.ag 0 1) [.t 12,.i 9]] [12]) (.seq (.g [.o 13 (.aj 2 true 11 false) [.t 5],
 .o 14 (.lit 11 1 [.i 0,.i 0,.str [],.str [],.i 0,.U,.i 0,.i 0,.i 0,.i 0,.i 0] [0]) [.T 13],
 .f 15 4 (.t 3),.n (.ag 0 1) [.t 15,.T 14]] [15]) (.seq (.seq (.g [.m 16 (.t 0),
 .c 17 14 [.t 16,.const (.str [59])],.m 18 (.t 17),.y 19 (.fieldAddr 0) [.t 5] 18,.y 20 (.aj 2 false 1 false) [.t 19] 18,
 .y 21 (.bin .neq) [.t 20,.i 7] 18,.o 22 .pick [.t 18,.t 21,.b false]] [5,16,17,18,19,20,21]) (.cond (.T 22) [] (.g [
 .m 23 (.t 0),.c 24 15 [.t 23,.i 2]] [23,24]) [] .skip)) (.seq (.g [.m 25 (.t 0),
 .c 26 18 [.t 25,.const (.str [59])]] [0,25,26]) (.seq (.g [.o 27 (.aj 0 true 9 false) [.t 3],.n (.ag 1 9) [.t 4,.T 27]] [3])
 .ret))))) [] .skip)) (.seq (.seq (.g [.f 28 0 (.t 5),.l 29 2 (.t 28),
 .o 30 (.bin .neq) [.t 29,.i 4],.m 31 (.t 30),.y 32 (.fieldAddr 0) [.t 5] 31,.y 33 (.aj 2 false 1 false) [.t 32] 31,
 .y 34 (.bin .neq) [.t 33,.i 5] 31,.o 35 .pick [.t 31,.t 34,.b false],.m 36 (.t 35),.y 37 (.fieldAddr 0) [.t 5] 36,
 .y 38 (.aj 2 false 1 false) [.t 37] 36,.y 39 (.bin .neq) [.t 38,.i 6] 36,
 .o 40 .pick [.t 36,.t 39,.b false]] [28,29,30,31,32,33,34,35,36,37,38,39]) (.cond (.T 40) [] (.g [.m 41 (.t 0),
 .c 42 15 [.t 41,.i 2]] [41,42]) [] .skip)) (.seq (.g [.m 43 (.t 0),
 .c 44 18 [.t 43,.const (.str [61])]] [43,44]) (.seq (.g [.m 45 (.t 0),.c 46 96 [.t 45,.i 0],
 .o 6 (.aE 3 [.i 0,.i 0,.str [],.str [],.i 0,.U,.i 0,.i 0,.i 0,.i 0,.i 0]) [],
 .n (.ag 3 11) [.t 6,.T 46]] [45]) (.seq (.g [.m 47 (.t 0),.c 48 18 [.t 47,.const (.str [59])]] [0,47,48]) (.seq (.seq
 (.g [.f 49 0 (.t 5),.l 50 2 (.t 49),.o 51 (.bin .eql) [.t 50,.i 4]] [49,50])
 (.cond (.T 51) [] (.seq (.g [.f 52 0 (.t 3),.n (.ag 0 1) [.t 52,.i 3]] [52]) (.seq (.g [
 .f 53 2 (.t 5),.l 54 2 (.t 53),.f 55 1 (.t 3),.n (.ag 0 1) [.t 55,.t 54]] [5,53,54,55]) (.seq
 (.g [.o 56 (.aj 3 true 11 false) [.t 6],
 .o 57 (.lit 11 1 [.i 0,.i 0,.str [],.str [],.i 0,.U,.i 0,.i 0,.i 0,.i 0,.i 0] [0]) [.T 56],
 .f 58 4 (.t 3),.n (.ag 0 1) [.t 58,.T 57]] [6,58]) (.seq (.g [.o 59 (.aj 0 true 9 false) [.t 3],
 .n (.ag 1 9) [.t 4,.T 59]] [3]) .ret)))) [] .skip)) (.seq (.g [.f 60 0 (.t 3),
 .n (.ag 0 1) [.t 60,.i 4]] [60]) (.seq (.g [.o 61 (.aj 2 true 11 false) [.t 5],.o 62 (.aj 3 true 11 false) [.t 6],
 .o 63 (.lit 11 2 [.i 0,.i 0,.str [],.str [],.i 0,.U,.i 0,.i 0,.i 0,.i 0,.i 0] [0,1]) [.T 61,.T 62],
 .f 64 4 (.t 3),.n (.ag 0 1) [.t 64,.T 63]] [5,6,64]) (.seq (.g [.o 65 (.aj 0 true 9 false) [.t 3],
 .n (.ag 1 9) [.t 4,.T 65]] [3]) .ret))))))))))) }
def s98:aC:={ eL:=98,mode:=.pure,nparams:=2,aJ:=0,dc:=[],results:=[.tmp 4 false],body:=
 (.seq (.g [.m 4 (.b false)] [4]) (.seq (.g [.m 5 (.T 0),.m 6 (.t 1),.c 7 117 [.T 5,.t 6],
 .o 8 (.bin .geq) [.t 7,.i 0],.m 4 (.t 8)] [1,6,7,8]) .ret)) }
def s99:aC:={ eL:=99,mode:=.lS,nparams:=3,aJ:=3,dc:=[],results:=[.box 6 1 3 true],body:=
 (.seq (.g [.o 4 (.dW 0 2) [.t 1],.o 6 (.aE 1 [.i 0,.i 0,.i 0]) []] [1]) (.seq (.r [.m 10 (.t 0),
 .o 11 .nilCheck [.t 10],.f 12 0 (.T 11),.d 13 (.T 12),.o 14 (.aj 0 true 2 false) [.t 4],
 .c 15 118 [.T 13,.t 14],.m 9 (.T 15),.o 16 (.extract 0) [.t 9],.o 17 (.extract 1) [.t 9],
 .o 7 (.aE 2 [.i 0,.i 0,.i 0]) [],.n (.ag 2 3) [.t 7,.t 16],.m 8 (.t 17)] (some []) [4,9,10,14,16,17]) (.seq (.seq
 (.g [.m 18 (.t 8),.o 19 (.un .not) [.t 18]] [8,18]) (.cond (.T 19) [] (.g [.m 20 (.t 0),.m 21 (.t 2),
 .c 22 81 [.t 20,.t 21]] [0,2,20,21,22]) [0,2] .skip)) (.seq (.g [.o 23 (.aj 2 true 3 false) [.t 7],
 .n (.ag 1 3) [.t 6,.t 23]] [7,23]) .ret)))) }
end aT
