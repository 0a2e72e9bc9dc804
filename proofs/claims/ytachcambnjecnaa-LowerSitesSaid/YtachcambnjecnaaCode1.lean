/- The annotated code of the loaded program,printed by wip/tools/gen.py. -/
import Derived.Test.YtachcambnjecnaaA6

set_option maxRecDepth 100000
namespace cz
open Ax Go
def WU:bQ:=
 (.seq (.seq (.g [.m 30 (.t 7),.m 31 (.t 0),.o 32 (.aR .lss) [.t 30,.t 31]] [30,31]) (.cond (.T 32) [] .skip [7] (.exit 0))) (.seq
 (.block 1 (.seq (.seq (.g [.m 35 (.t 7),.m 36 (.t 1),.o 37 (.aR .eql) [.t 35,.t 36]] [35,36]) (.cond (.T 37) [6] (.seq (.g [
 .m 38 (.t 5),.o 39 (.aR .add) [.t 38,.const (.str [125,32,102,117,110,99,32,109,97,105,110,40,41,32,123,32])],.m 5 (.t 39)] [38,39])
 (.g [.m 40 (.t 5),.o 41 (.len .str) [.t 40],.o 42 (.aR .sub) [.t 41,.i 9],.m 6 (.t 42)] [40,41,42])) [] .skip))
 (.g [.m 43 (.t 5),.o 44 (.aR .add) [.t 43,.const (.str [102,40,110,101,119,32,82,41,59,32])],.m 5 (.t 44)] [43,44]))) (.g [
 .m 33 (.t 7),.o 34 (.aR .add) [.t 33,.i 1],.m 7 (.t 34)] [33,34])))
def WW:bQ:=
 (.seq (.seq (.g [.m 53 (.t 9),.m 54 (.t 5),.o 55 (.len .str) [.t 54],.o 56 (.aR .lss) [.t 53,.t 55]] [53,54,55]) (.cond (.T 56) []
 .skip [5,9] (.exit 2))) (.seq (.block 3 (.seq (.seq (.g [.m 59 (.t 9),.o 60 (.aR .add) [.t 59,.i 9],.m 61 (.t 5),
 .o 62 (.len .str) [.t 61],.o 63 (.aR .leq) [.t 60,.t 62],.m 64 (.t 63),.y 65 .move [.t 5] 64,.y 66 .move [.t 9] 64,.y 67 .move [.t 9] 64,
 .y 68 (.aR .add) [.t 67,.i 9] 64,.y 69 (.slice true true true false 0) [.t 65,.t 66,.t 68] 64,
 .y 70 (.aR .eql) [.t 69,.const (.str [102,40,110,101,119,32,82,41,59])] 64,
 .o 71 .pick [.t 64,.t 70,.b false]] [59,60,61,62,63,64,65,66,67,68,69,70]) (.cond (.T 71) [] (.seq (.g [.m 72 (.t 8),
 .o 73 (.aR .add) [.t 72,.const (.str [103,40,110,101,119,32,82,41,59])],.m 8 (.t 73)] [72,73]) (.seq (.g [.m 74 (.t 9),
 .o 75 (.aR .add) [.t 74,.i 8],.m 9 (.t 75)] [74,75]) (.exit 3))) [] .skip)) (.g [.m 76 (.t 8),.m 77 (.t 5),
 .m 78 (.t 9),.m 79 (.t 9),.o 80 (.aR .add) [.t 79,.i 1],.o 81 (.slice true true true false 0) [.t 77,.t 78,.t 80],
 .o 82 (.aR .add) [.t 76,.t 81],.m 8 (.t 82)] [76,77,78,79,80,81,82]))) (.g [.m 57 (.t 9),
 .o 58 (.aR .add) [.t 57,.i 1],.m 9 (.t 58)] [57,58])))
def s4:aD:={ fV:=4,mode:=.pure,aF:=2,aP:=4,dM:=[],results:=[.tmp 4 false],body:=
 (.seq (.g [.m 4 (.b false)] [4]) (.seq (.seq (.g [.m 15 (.t 0),.o 16 (.aR .lss) [.t 15,.i 0],
 .m 17 (.t 16),.z 18 .move [.t 0] 17,.z 19 (.aR .gtr) [.t 18,.i 70] 17,.o 20 .pick [.t 17,.b true,.t 19],
 .m 21 (.t 20),.z 22 .move [.t 1] 21,.z 23 (.aR .lss) [.t 22,.i 0] 21,.o 24 .pick [.t 21,.b true,.t 23],
 .m 25 (.t 24),.z 26 .move [.t 1] 25,.z 27 .move [.t 0] 25,.z 28 (.aR .gtr) [.t 26,.t 27] 25,
 .o 29 .pick [.t 25,.b true,.t 28]] [15,16,17,18,19,20,21,22,23,24,25,26,27,28]) (.cond (.T 29) [0,1] (.seq (.g [
 .m 4 (.b true)] []) .ret) [] .skip)) (.seq (.g [.o 5 .move [.const (.str [102,117,110,99,32,102,40,41,32,123,32])]] [])
 (.seq (.g [.m 6 (.i 5)] []) (.seq (.seq (.g [.m 7 (.i 0)] []) (.block 0 (.loop WU)))
 (.seq (.seq (.g [.m 45 (.t 1),.m 46 (.t 0),.o 47 (.aR .geq) [.t 45,.t 46]] [45,46]) (.cond (.T 47) [6] (.seq (.g [
 .m 48 (.t 5),.o 49 (.aR .add) [.t 48,.const (.str [125,32,102,117,110,99,32,109,97,105,110,40,41,32,123,32])],.m 5 (.t 49)] [48,49])
 (.g [.m 50 (.t 5),.o 51 (.len .str) [.t 50],.o 52 (.aR .sub) [.t 51,.i 9],.m 6 (.t 52)] [50,51,52])) [] .skip))
 (.seq (.g [.o 8 .move [.const (.str [])]] []) (.seq (.seq (.g [.m 9 (.i 0)] []) (.block 2 (.loop WW))) (.seq
 (.g [.m 84 (.t 8),
 .o 85 (.aR .add) [.t 84,.const (.str [125,32,102,117,110,99,32,103,40,114,58,32,82,41,32,123,32,125,32,114,101,99,111,114,100,32,82,32,123,32,125])],
 .c 86 9 [.t 85],.m 83 (.T 86),.o 87 (.extract 0) [.t 83],.o 88 (.extract 1) [.T 83],.o 10 (.aH 0 [.U,.U,.U]) [],
 .o 11 (.aH 1 [.i 0,.i 0]) [],.n (.ai 0 3) [.t 10,.T 87],.n (.ai 1 2) [.t 11,.t 88]] [8,84,85,88]) (.seq (.g [
 .o 90 (.aE 0 true 3 false) [.t 10],.c 91 7 [.T 90],.m 89 (.T 91),.o 92 (.extract 0) [.t 89],.o 93 (.extract 1) [.T 89],
 .o 12 (.aH 2 [.U,.U,.U,.U,.i 0]) [],.o 13 (.aH 3 [.i 0,.i 0]) [],.n (.ai 2 5) [.t 12,.T 92],
 .n (.ai 3 2) [.t 13,.t 93]] [10,93]) (.seq (.seq (.g [.f 94 0 (.t 11),.l 95 1 (.t 94),
 .o 96 (.aR .neq) [.t 95,.i 0]] [11,94,95]) (.cond (.T 96) [0,1,6,12,13] (.seq (.g [.m 4 (.b false)] [])
 .ret) [] .skip)) (.seq (.seq (.g [.m 97 (.t 0),.o 98 (.aR .gtr) [.t 97,.i 60]] [97]) (.cond (.T 98) [0,12] (.seq (.g [
 .m 14 (.i 5)] []) (.seq (.seq (.g [.m 99 (.t 1),.o 100 (.aR .leq) [.t 99,.i 60]] [1,99])
 (.cond (.T 100) [14] (.g [.m 101 (.t 6),.m 14 (.t 101)] [6,101]) [6] .skip)) (.seq (.g [.o 102 (.aE 3 true 2 false) [.t 13],
 .m 103 (.t 14),.o 104 (.build [.i 0,.i 0] [(0,1),(1,1)]) [.i 4,.t 103],
 .o 105 (.Ai (.flat [.int,.int]) false) [.t 102,.t 104],.m 106 (.t 105),.y 107 (.call 8) [] 106,.o 108 .pick [.t 106,.t 107,.b false],
 .m 4 (.t 108)] [13,14,102,103,104,105,106,107,108]) .ret))) [1,6] .skip)) (.seq (.g [.f 109 0 (.t 13),
 .l 110 3 (.t 109),.o 111 (.aR .eql) [.t 110,.i 0],.m 112 (.t 111),.y 113 (.fieldAddr 3) [.t 12] 112,
 .y 114 (.aE 2 false 1 false) [.t 113] 112,.y 115 (.len .sl) [.T 114] 112,.y 116 .move [.t 0] 112,.y 117 (.aR .eql) [.t 115,.t 116] 112,
 .o 118 .pick [.t 112,.t 117,.b false],.m 119 (.t 118),.y 120 (.call 8) [] 119,.o 121 .pick [.t 119,.t 120,.b false],
 .m 4 (.t 121)] [0,12,13,109,110,111,112,113,114,115,116,117,118,119,120,121]) .ret))))))))))))) }
def WX:bQ:=
 (.seq (.g [.o 48 (.aR .lss) [.t 47,.t 46]] []) (.seq (.cond (.T 48) [] .skip [45,46,47] (.exit 0)) (.seq (.block 1 (.seq (.g [
 .o 49 (.indexAddr 4) [.t 45,.t 47],.o 50 (.load true 4 false) [.T 49],.o 9 (.aH 6 [.str [],.i 0,.i 0,.i 0]) [],
 .n (.ai 6 4) [.t 9,.t 50]] [50]) (.r [.m 51 (.t 7),.m 52 (.t 7),.o 53 .nilCheck [.t 52],.f 54 0 (.T 53),
 .f 55 1 (.T 54),.o 56 (.load false 1 true) [.T 55],.f 57 1 (.t 9),.o 58 (.aE 6 true 3 false) [.t 57],
 .o 59 (.lit 3 1 [.i 0,.i 0,.i 0] [0]) [.t 58],.o 60 (.append 3 24) [.T 56,.T 59],.o 61 .nilCheck [.t 51],.f 62 0 (.T 61),
 .f 63 1 (.T 62),.n (.store 1) [.T 63,.T 60]] (some []) [9,51,52,57,58]))) (.g [.o 64 (.aR .add) [.t 47,.i 1],
 .m 47 (.t 64)] [64]))))
def WY:bQ:=
 (.seq (.g [.o 69 (.aR .lss) [.t 68,.t 67]] []) (.seq (.cond (.T 69) [] .skip [4,10,66,67,68] (.exit 2)) (.seq (.block 3 (.seq (.g [
 .m 70 (.t 68),.o 71 (.indexAddr 3) [.t 66,.t 68],.o 72 (.load true 3 false) [.T 71],.o 12 (.aH 7 [.U,.U,.i 0]) [],
 .m 11 (.t 70),.n (.ai 7 3) [.t 12,.T 72]] [70]) (.seq (.r [.m 73 (.t 7),.f 74 0 (.t 4),
 .f 75 2 (.t 74),.l 76 3 (.t 75),.m 77 (.t 11),.o 78 (.indexAddr 6) [.T 76,.t 77],
 .o 79 (.load true 6 false) [.T 78],.o 80 (.aE 7 true 3 false) [.t 12],.c 81 13 [.t 73,.T 79,.T 80]] (some []) [11,73,74,75,77,81]) (.seq
 (.g [.m 82 (.t 10),.m 83 (.t 7),.o 84 .nilCheck [.t 83],.f 85 5 (.T 84),.f 86 6 (.T 85),
 .d 87 (.T 86),.o 88 (.len .sl) [.T 87],.o 89 (.aR .add) [.t 82,.t 88],.m 10 (.t 89)] [82,83,88,89]) (.seq (.g [
 .m 90 (.t 7),.o 91 .nilCheck [.t 90],.f 92 5 (.T 91),.f 93 1 (.T 92),.d 94 (.T 93),
 .o 95 (.len .sl) [.T 94],.o 96 (.aR .gtr) [.t 95,.i 4000],.m 97 (.t 96),.z 98 .move [.t 10] 97,
 .z 99 (.aR .gtr) [.t 98,.i 2500] 97,.o 100 .pick [.t 97,.b true,.t 99],.m 101 (.t 100),.z 102 .move [.t 7] 101,
 .z 103 .nilCheck [.t 102] 101,.z 104 (.fieldAddr 0) [.T 103] 101,.z 105 (.fieldAddr 3) [.T 104] 101,.z 106 (.load false 1 false) [.T 105] 101,
 .z 107 (.len .sl) [.T 106] 101,.z 108 (.aR .gtr) [.t 107,.i 60] 101,
 .o 109 .pick [.t 101,.b true,.t 108]] [90,95,96,97,98,99,100,101,102,103,104,105,106,107,108]) (.cond (.T 109) [4,7,10,66,67,68] (.seq
 (.r [.o 110 (.build [.U,.U,.U,.U,.i 0] []) [],.f 111 2 (.t 12),.l 112 7 (.t 111),
 .o 113 (.build [.i 0,.i 0] [(0,1),(1,1)]) [.i 4,.t 112],.n (.ai 1 5) [.t 2,.T 110],
 .n (.ai 2 2) [.t 3,.t 113]] (some []) [12,111,112,113]) .ret) [12] .skip)))))) (.g [.o 114 (.aR .add) [.t 68,.i 1],
 .m 68 (.t 114)] [114]))))
def s7:aD:={ fV:=7,mode:=.pure,aF:=1,aP:=8,dM:=[],results:=[.box 2 1 5 true,.box 3 2 2 true],body:=
 (.seq (.g [.o 1 (.gq 0 3) [.T 0],.o 2 (.aH 1 [.U,.U,.U,.U,.i 0]) [],
 .o 3 (.aH 2 [.i 0,.i 0]) []] []) (.seq (.g [.o 14 (.aE 0 true 3 false) [.t 1],.c 15 10 [.T 14],.m 13 (.T 15),
 .o 16 (.extract 0) [.t 13],.o 17 (.extract 1) [.T 13],.o 4 (.aH 3 [.U,.U,.U,.i 0,.U]) [],
 .o 5 (.aH 4 [.i 0,.i 0]) [],.n (.ai 3 5) [.t 4,.T 16],.n (.ai 4 2) [.t 5,.t 17]] [17]) (.seq (.seq (.g [
 .f 18 0 (.t 5),.l 19 4 (.t 18),.o 20 (.aR .neq) [.t 19,.i 0]] [18,19]) (.cond (.T 20) [1,4] (.seq
 (.r [.o 21 (.build [.U,.U,.U,.U,.i 0] []) [],.o 22 (.aE 4 true 2 false) [.t 5],.n (.ai 1 5) [.t 2,.T 21],
 .n (.ai 2 2) [.t 3,.t 22]] (some []) [5,22]) .ret) [5] .skip)) (.seq (.seq (.g [.o 23 (.aE 0 true 3 false) [.t 1],.c 24 11 [.T 23],
 .o 6 (.aH 5 [.i 0,.i 0]) [],.n (.ai 5 2) [.t 6,.t 24]] [24]) (.seq (.g [.f 25 0 (.t 6),
 .l 26 5 (.t 25),.o 27 (.aR .neq) [.t 26,.i 0]] [25,26]) (.cond (.T 27) [1,4] (.seq (.r [
 .o 28 (.build [.U,.U,.U,.U,.i 0] []) [],.o 29 (.aE 5 true 2 false) [.t 6],.n (.ai 1 5) [.t 2,.T 28],
 .n (.ai 2 2) [.t 3,.t 29]] (some []) [6,29]) .ret) [6] .skip))) (.seq (.seq (.g [.o 30 (.aE 0 true 3 false) [.t 1],
 .c 31 12 [.T 30]] [1]) (.cond (.T 31) [4] (.seq (.g [.o 32 (.build [.U,.U,.U,.U,.i 0] []) [],
 .o 33 (.build [.i 0,.i 0] [(0,1)]) [.i 4],.n (.ai 1 5) [.t 2,.T 32],.n (.ai 2 2) [.t 3,.t 33]] [33]) .ret) []
 .skip)) (.seq (.g [.f 34 0 (.t 4),.f 35 0 (.t 34),.l 36 3 (.t 35),.f 37 0 (.t 4),
 .f 38 3 (.t 37),.l 39 3 (.t 38),.o 40 (.build [.U,.U,.U,.U,.i 0] [(0,1),(4,1)]) [.T 36,.t 39],
 .o 41 (.build [.U,.U,.U,.U,.i 0,.i 0,.U,.bool false,.i 0,.i 0,.i 0,.U] [(0,5)]) [.T 40],
 .o 42 (.box 12) [.T 41],.m 7 (.t 42)] [34,35,37,38,39,42]) (.seq (.seq (.g [.f 43 0 (.t 4),.f 44 1 (.t 43),
 .l 45 3 (.t 44),.o 46 (.len .sl) [.t 45],.m 47 (.i 0)] [43,44]) (.block 0 (.loop WX))) (.seq (.g [
 .m 10 (.i 0)] []) (.seq (.seq (.g [.f 65 4 (.t 4),.l 66 3 (.t 65),
 .o 67 (.len .sl) [.t 66],.m 68 (.i 0)] [65]) (.block 2 (.loop WY))) (.seq (.g [.m 115 (.t 7),
 .o 116 .nilCheck [.t 115],.f 117 0 (.T 116),.o 118 (.load true 5 false) [.T 117],.o 119 (.build [.i 0,.i 0] []) [],
 .n (.ai 1 5) [.t 2,.T 118],.n (.ai 2 2) [.t 3,.t 119]] [7,115,119]) .ret)))))))))) }
def s8:aD:={ fV:=8,mode:=.pure,aF:=0,aP:=4,dM:=[],results:=[.tmp 0 false],body:=
 (.seq (.g [.m 0 (.b false)] [0]) (.seq (.g [
 .c 6 9 [.const (.str [102,117,110,99,32,109,97,105,110,40,41,32,123,32,112,114,105,110,116,32,49,59,32,125])],.m 5 (.T 6),
 .o 7 (.extract 0) [.t 5],.o 8 (.extract 1) [.T 5],.o 1 (.aH 0 [.U,.U,.U]) [],.o 2 (.aH 1 [.i 0,.i 0]) [],
 .n (.ai 0 3) [.t 1,.T 7],.n (.ai 1 2) [.t 2,.t 8]] [2,8]) (.seq (.g [.o 10 (.aE 0 true 3 false) [.t 1],.c 11 7 [.T 10],
 .m 9 (.T 11),.o 12 (.extract 0) [.t 9],.o 13 (.extract 1) [.T 9],.o 3 (.aH 2 [.U,.U,.U,.U,.i 0]) [],
 .o 4 (.aH 3 [.i 0,.i 0]) [],.n (.ai 2 5) [.t 3,.T 12],.n (.ai 3 2) [.t 4,.t 13]] [1,13]) (.seq (.g [
 .f 14 0 (.t 4),.l 15 3 (.t 14),.o 16 (.aR .eql) [.t 15,.i 0],.m 17 (.t 16),
 .y 18 (.fieldAddr 2) [.t 3] 17,.y 19 (.aE 2 false 1 false) [.t 18] 17,.y 20 (.len .sl) [.T 19] 17,.y 21 (.aR .eql) [.t 20,.i 1] 17,
 .o 22 .pick [.t 17,.t 21,.b false],.m 23 (.t 22),.y 24 (.fieldAddr 2) [.t 3] 23,.y 25 (.aE 2 false 1 false) [.t 24] 23,
 .y 26 (.indexAddr 7) [.T 25,.i 0] 23,.y 27 (.fieldAddr 6) [.T 26] 23,.y 28 (.load false 1 false) [.T 27] 23,.y 29 (.len .sl) [.T 28] 23,
 .y 30 (.aR .eql) [.t 29,.i 3] 23,.o 31 .pick [.t 23,.t 30,.b false],.m 32 (.t 31),.y 33 (.fieldAddr 2) [.t 3] 32,
 .y 34 (.aE 2 false 1 false) [.t 33] 32,.y 35 (.indexAddr 7) [.T 34,.i 0] 32,.y 36 (.fieldAddr 6) [.T 35] 32,
 .y 37 (.load false 1 false) [.T 36] 32,.y 38 (.indexAddr 6) [.T 37,.i 0] 32,.y 39 (.fieldAddr 0) [.T 38] 32,
 .y 40 (.load false 1 false) [.T 39] 32,.y 41 (.aR .eql) [.t 40,.i 1] 32,.o 42 .pick [.t 32,.t 41,.b false],
 .m 43 (.t 42),.y 44 (.fieldAddr 2) [.t 3] 43,.y 45 (.aE 2 false 1 false) [.t 44] 43,.y 46 (.indexAddr 7) [.T 45,.i 0] 43,
 .y 47 (.fieldAddr 6) [.T 46] 43,.y 48 (.load false 1 false) [.T 47] 43,.y 49 (.indexAddr 6) [.T 48,.i 0] 43,
 .y 50 (.fieldAddr 4) [.T 49] 43,.y 51 (.load false 1 false) [.T 50] 43,.y 52 (.aR .eql) [.t 51,.i 1] 43,
 .o 53 .pick [.t 43,.t 52,.b false],.m 54 (.t 53),.y 55 (.fieldAddr 2) [.t 3] 54,.y 56 (.aE 2 false 1 false) [.t 55] 54,
 .y 57 (.indexAddr 7) [.T 56,.i 0] 54,.y 58 (.fieldAddr 6) [.T 57] 54,.y 59 (.load false 1 false) [.T 58] 54,
 .y 60 (.indexAddr 6) [.T 59,.i 2] 54,.y 61 (.fieldAddr 1) [.T 60] 54,.y 62 (.load false 1 false) [.T 61] 54,
 .y 63 (.aR .eql) [.t 62,.const (.i (-1))] 54,.o 64 .pick [.t 54,.t 63,.b false],
 .m 0 (.t 64)] [3,4,14,15,16,17,18,19,20,21,22,23,24,25,26,27,28,29,30,31,32,33,34,35,36,37,38,39,40,41,42,43,44,45,46,47,48,49,50,51,52,53,54,55,56,57,58,59,60,61,62,63,64])
 .ret)))) }
def WZ:bQ:=
 (.seq (.seq (.g [.m 21 (.t 6),.c 22 15 [.t 21],.m 23 (.t 22),.y 24 .move [.t 6] 23,.y 25 (.call 16) [.t 24] 23,
 .y 26 (.field 0 1 false) [.t 25] 23,.y 27 (.aR .neq) [.t 26,.i 0] 23,
 .o 28 .pick [.t 23,.t 27,.b false]] [21,22,23,24,25,26,27]) (.cond (.T 28) [] .skip [] (.exit 0))) (.block 1 (.block 2 (.seq (.seq (.g [
 .m 32 (.t 6),.c 33 17 [.t 32,.const (.str [114,101,99,111,114,100])],.m 34 (.t 33),.y 35 (.fieldAddr 0) [.t 7] 34,
 .y 36 (.aE 3 false 1 false) [.t 35] 34,.y 37 (.len .sl) [.T 36] 34,.y 38 (.aR .eql) [.t 37,.i 12] 34,
 .o 39 .pick [.t 34,.t 38,.b false],.m 31 (.t 39)] [32,33,34,35,36,37,38,39]) (.cond (.t 31) [] .skip [31] (.seq (.g [
 .m 40 (.t 6),.c 41 17 [.t 40,.const (.str [103,108,111,98,97,108])],.m 42 (.t 41),.y 43 (.fieldAddr 1) [.t 7] 42,
 .y 44 (.aE 3 false 1 false) [.t 43] 42,.y 45 (.len .sl) [.T 44] 42,.y 46 (.aR .eql) [.t 45,.i 8] 42,
 .o 47 .pick [.t 42,.t 46,.b false],.m 31 (.t 47)] [40,41,42,43,44,45,46,47]) (.cond (.t 31) [] .skip [31] (.g [
 .m 48 (.t 6),.c 49 17 [.t 48,.const (.str [102,117,110,99])],.m 50 (.t 49),.y 51 (.fieldAddr 2) [.t 7] 50,
 .y 52 (.aE 3 false 1 false) [.t 51] 50,.y 53 (.len .sl) [.T 52] 50,.y 54 (.aR .eql) [.t 53,.i 16] 50,
 .o 55 .pick [.t 50,.t 54,.b false],.m 31 (.t 55)] [48,49,50,51,52,53,54,55]))))) (.cond (.T 31) [] (.g [.m 56 (.t 6),
 .c 57 18 [.t 56,.i 4]] [56,57]) [] (.seq (.g [.m 59 (.t 6),
 .c 60 17 [.t 59,.const (.str [114,101,99,111,114,100])],.m 58 (.t 60)] [59,60]) (.cond (.T 58) [] (.seq (.g [.m 61 (.t 6),
 .o 62 .nilCheck [.t 61],.f 63 1 (.T 62),.d 64 (.T 63),.o 65 (.aR .add) [.t 64,.i 1],
 .o 66 .nilCheck [.t 61],.f 67 1 (.T 66),.n (.store 1) [.T 67,.t 65]] [61,64,65]) (.r [.f 68 0 (.t 7),
 .o 69 (.aE 3 false 1 true) [.t 68],.m 70 (.t 6),.c 71 19 [.t 70],.o 72 (.lit 3 1 [.str [],.U,.i 0] [0]) [.T 71],
 .o 73 (.append 3 48) [.T 69,.T 72],.f 74 0 (.t 7),.n (.ai 3 1) [.t 74,.T 73]] (some []) [68,70,74])) [] (.seq (.g [
 .m 76 (.t 6),.c 77 17 [.t 76,.const (.str [103,108,111,98,97,108])],.m 75 (.t 77)] [76,77]) (.cond (.T 75) [] (.seq (.g [
 .m 78 (.t 6),.o 79 .nilCheck [.t 78],.f 80 1 (.T 79),.d 81 (.T 80),
 .o 82 (.aR .add) [.t 81,.i 1],.o 83 .nilCheck [.t 78],.f 84 1 (.T 83),.n (.store 1) [.T 84,.t 82]] [78,81,82]) (.seq
 (.r [.f 85 1 (.t 7),.o 86 (.aE 3 false 1 true) [.t 85],.m 87 (.t 6),.c 88 20 [.t 87],
 .o 89 (.lit 4 1 [.str [],.str [],.i 0,.i 0] [0]) [.t 88],.o 90 (.append 4 48) [.T 86,.T 89],.f 91 1 (.t 7),
 .n (.ai 3 1) [.t 91,.T 90]] (some []) [85,87,88,91]) (.g [.m 92 (.t 6),.c 93 21 [.t 92,.const (.str [59])]] [92,93]))) [] (.seq
 (.g [.m 95 (.t 6),.c 96 17 [.t 95,.const (.str [102,117,110,99])],.m 94 (.t 96)] [95,96]) (.cond (.T 94) [] (.seq (.g [
 .m 97 (.t 6),.o 98 .nilCheck [.t 97],.f 99 1 (.T 98),.d 100 (.T 99),
 .o 101 (.aR .add) [.t 100,.i 1],.o 102 .nilCheck [.t 97],.f 103 1 (.T 102),.n (.store 1) [.T 103,.t 101]] [97,100,101])
 (.r [.f 104 2 (.t 7),.o 105 (.aE 3 false 1 true) [.t 104],.m 106 (.t 6),.c 107 22 [.t 106],
 .o 108 (.lit 7 1 [.str [],.U,.bool false,.str [],.i 0,.U,.i 0] [0]) [.T 107],.o 109 (.append 7 104) [.T 105,.T 108],
 .f 110 2 (.t 7),.n (.ai 3 1) [.t 110,.T 109]] (some []) [104,106,110])) [] (.g [.m 29 (.t 6),
 .c 30 18 [.t 29,.i 2]] [29,30]))))))))))))
def s9:aD:={ fV:=9,mode:=.pure,aF:=1,aP:=4,dM:=[],results:=[.box 2 0 3 true,.box 3 1 2 true],body:=
 (.seq (.g [.o 2 (.aH 0 [.U,.U,.U]) [],.o 3 (.aH 1 [.i 0,.i 0]) []] []) (.seq (.g [.m 9 (.t 0),
 .c 10 14 [.t 9],.m 8 (.T 10),.o 11 (.extract 0) [.t 8],.o 12 (.extract 1) [.T 8],.o 5 (.aH 2 [.i 0,.i 0]) [],
 .m 4 (.T 11),.n (.ai 2 2) [.t 5,.t 12]] [0,9,12]) (.seq (.seq (.g [.f 13 0 (.t 5),.l 14 2 (.t 13),
 .o 15 (.aR .neq) [.t 14,.i 0]] [13,14]) (.cond (.T 15) [4] (.seq (.r [.o 16 (.build [.U,.U,.U] []) [],
 .o 17 (.aE 2 true 2 false) [.t 5],.n (.ai 0 3) [.t 2,.T 16],.n (.ai 1 2) [.t 3,.t 17]] (some []) [5,17]) .ret) [5] .skip)) (.seq (.g [
 .m 18 (.T 4),.o 19 (.build [.U,.i 0,.i 0,.i 0,.i 0] [(0,1)]) [.T 18],.o 20 (.box 5) [.T 19],
 .m 6 (.t 20)] [20]) (.seq (.g [.o 7 (.aH 3 [.U,.U,.U]) []] []) (.seq (.block 0 (.loop WZ)) (.seq (.seq (.g [
 .m 111 (.t 6),.c 112 15 [.t 111],.o 113 (.un .not) [.t 112]] [111,112]) (.cond (.T 113) [7] (.seq (.r [
 .o 114 (.build [.U,.U,.U] []) [],.m 115 (.t 6),.o 116 .nilCheck [.t 115],.f 117 3 (.T 116),
 .o 118 (.load true 2 false) [.T 117],.n (.ai 0 3) [.t 2,.T 114],.n (.ai 1 2) [.t 3,.t 118]] (some []) [6,115,118]) .ret) [6] .skip)) (.seq
 (.g [.o 119 (.aE 3 true 3 false) [.t 7],.o 120 (.build [.i 0,.i 0] []) [],.n (.ai 0 3) [.t 2,.T 119],
 .n (.ai 1 2) [.t 3,.t 120]] [7,120]) .ret)))))))) }
def Qm:bQ:=
 (.seq (.g [.o 29 (.aR .lss) [.t 28,.t 27]] []) (.seq (.cond (.T 29) [] .skip [26,27,28] (.exit 0)) (.seq (.block 1 (.seq (.g [
 .o 30 (.indexAddr 3) [.t 26,.t 28],.o 31 (.load true 3 false) [.T 30],.o 8 (.aH 5 [.str [],.U,.i 0]) [],
 .n (.ai 5 3) [.t 8,.T 31]] []) (.r [.m 32 (.t 6),.m 33 (.t 6),.o 34 .nilCheck [.t 33],.f 35 4 (.T 34),
 .o 36 (.load false 1 true) [.T 35],.f 37 0 (.t 8),.l 38 5 (.t 37),.o 39 (.lit 1 1 [.str []] [0]) [.t 38],
 .o 40 (.append 1 16) [.T 36,.T 39],.o 41 .nilCheck [.t 32],.f 42 4 (.T 41),.n (.store 1) [.T 42,.T 40]] (some []) [8,32,33,37,38])))
 (.g [.o 43 (.aR .add) [.t 28,.i 1],.m 28 (.t 43)] [43]))))
def Qn:bQ:=
 (.seq (.g [.o 50 (.aR .lss) [.t 49,.t 48]] []) (.seq (.cond (.T 50) [] .skip [4,6,47,48,49] (.exit 2)) (.seq (.block 3 (.seq (.g [
 .m 51 (.t 49),.o 52 (.indexAddr 7) [.t 47,.t 49],.o 53 (.load true 7 false) [.T 52],
 .o 11 (.aH 7 [.str [],.U,.bool false,.str [],.i 0,.U,.i 0]) [],.m 10 (.t 51),.n (.ai 7 7) [.t 11,.T 53]] [51])
 (.seq (.r [.f 54 4 (.t 9),.o 55 (.aE 6 false 1 true) [.t 54],.m 56 (.t 6),.o 57 (.aE 7 true 7 false) [.t 11],
 .f 58 2 (.t 4),.l 59 3 (.t 58),.m 60 (.t 10),.o 61 (.indexAddr 6) [.T 59,.t 60],
 .o 62 (.load true 6 false) [.T 61],.c 63 24 [.t 56,.T 57,.T 62],.o 64 (.lit 3 1 [.U,.U,.i 0] [0]) [.T 63],
 .o 65 (.append 3 56) [.T 55,.T 64],.f 66 4 (.t 9),.n (.ai 6 1) [.t 66,.T 65]] (some []) [10,11,54,56,58,60,66]) (.seq (.g [
 .m 67 (.t 6),.c 68 25 [.t 67]] [67]) (.cond (.T 68) [4,9,47,48,49] (.seq (.r [
 .o 69 (.build [.U,.U,.U,.i 0,.U] []) [],.m 70 (.t 6),.o 71 .nilCheck [.t 70],.f 72 12 (.T 71),
 .o 73 (.load true 2 false) [.T 72],.n (.ai 1 5) [.t 2,.T 69],.n (.ai 2 2) [.t 3,.t 73]] (some []) [6,70,73]) .ret) [] .skip))))) (.g [
 .o 74 (.aR .add) [.t 49,.i 1],.m 49 (.t 74)] [74]))))
def s10:aD:={ fV:=10,mode:=.pure,aF:=1,aP:=8,dM:=[],results:=[.box 2 1 5 true,.box 3 2 2 true],body:=
 (.seq (.g [.o 1 (.gq 0 3) [.T 0],.o 2 (.aH 1 [.U,.U,.U,.i 0,.U]) [],
 .o 3 (.aH 2 [.i 0,.i 0]) []] []) (.seq (.g [.o 13 (.aE 0 true 3 false) [.t 1],.c 14 23 [.T 13],.m 12 (.T 14),
 .o 15 (.extract 0) [.t 12],.o 16 (.extract 1) [.T 12],.o 4 (.aH 3 [.U,.U,.U,.i 0]) [],.o 5 (.aH 4 [.i 0,.i 0]) [],
 .n (.ai 3 4) [.t 4,.T 15],.n (.ai 4 2) [.t 5,.t 16]] [16]) (.seq (.seq (.g [.f 17 0 (.t 5),
 .l 18 4 (.t 17),.o 19 (.aR .neq) [.t 18,.i 0]] [17,18]) (.cond (.T 19) [1,4] (.seq (.r [
 .o 20 (.build [.U,.U,.U,.i 0,.U] []) [],.o 21 (.aE 4 true 2 false) [.t 5],.n (.ai 1 5) [.t 2,.T 20],
 .n (.ai 2 2) [.t 3,.t 21]] (some []) [5,21]) .ret) [5] .skip)) (.seq (.g [.o 22 (.aE 3 true 4 false) [.t 4],
 .o 23 (.build [.U,.U,.U,.i 0,.U,.str [],.U,.bool false,.i 0,.i 0,.i 0,.U,.i 0,.i 0] [(0,4)]) [.T 22],
 .o 24 (.box 14) [.T 23],.m 6 (.t 24)] [24]) (.seq (.seq (.g [.f 25 0 (.t 1),.l 26 0 (.t 25),
 .o 27 (.len .sl) [.t 26],.m 28 (.i 0)] [25]) (.block 0 (.loop Qm))) (.seq (.g [.o 44 (.aE 3 true 4 false) [.t 4],
 .o 45 (.build [.U,.U,.U,.i 0,.U] [(0,4)]) [.T 44],.o 9 (.aH 6 [.U,.U,.U,.i 0,.U]) [],
 .n (.ai 6 5) [.t 9,.T 45]] []) (.seq (.seq (.g [.f 46 2 (.t 1),.l 47 0 (.t 46),.o 48 (.len .sl) [.t 47],
 .m 49 (.i 0)] [1,46]) (.block 2 (.loop Qn))) (.seq (.g [.o 75 (.aE 6 true 5 false) [.t 9],
 .o 76 (.build [.i 0,.i 0] []) [],.n (.ai 1 5) [.t 2,.T 75],.n (.ai 2 2) [.t 3,.t 76]] [9,76]) .ret)))))))) }
def Qo:bQ:=
 (.seq (.g [.o 40 (.aR .lss) [.t 39,.t 38]] []) (.seq (.cond (.T 40) [] .skip [38,39] (.exit 2)) (.seq (.block 3 (.seq (.g [
 .m 41 (.t 39),.m 8 (.t 41)] [41]) (.g [.m 42 (.t 7),.m 43 (.t 8),.o 44 (.indexAddr 1) [.T 42,.t 43],
 .n (.store 1) [.T 44,.b true]] [8,43]))) (.g [.o 45 (.aR .add) [.t 39,.i 1],.m 39 (.t 45)] [45]))))
def Qp:bQ:=
 (.seq (.g [.o 23 (.aR .lss) [.t 22,.t 21]] []) (.seq (.cond (.T 23) [] .skip [3,20,21,22] (.exit 0)) (.seq (.block 1 (.seq (.g [
 .m 24 (.t 22),.o 25 (.indexAddr 3) [.t 20,.t 22],.o 26 (.load true 3 false) [.T 25],.o 6 (.aH 4 [.U,.U,.i 0]) [],
 .m 5 (.t 24),.n (.ai 4 3) [.t 6,.T 26]] [24]) (.seq (.g [.f 27 0 (.t 6),.l 28 4 (.t 27),
 .o 29 (.len .sl) [.T 28],.o 30 (.rO 1 1 [.bool false] true) [.t 29,.t 29],.m 7 (.T 30)] [27,29]) (.seq (.seq (.g [
 .f 31 0 (.t 3),.f 32 2 (.t 31),.l 33 2 (.t 32),.m 34 (.t 5),.o 35 (.indexAddr 6) [.T 33,.t 34],
 .f 36 1 (.T 35),.d 37 (.T 36),.o 38 (.len .sl) [.T 37],.m 39 (.i 0)] [5,31,32,34]) (.block 2
 (.loop Qo))) (.seq (.g [.o 46 (.build [.i 0,.i 0] []) [],.o 47 (.box 2) [.t 46],.m 9 (.t 47)] [46,47]) (.seq (.g [
 .m 48 (.t 9),.f 49 1 (.t 6),.l 50 4 (.t 49),.m 51 (.T 7),
 .c 52 26 [.t 48,.T 50,.T 51]] [6,48,49,52]) (.seq (.g [.m 53 (.t 9),.o 54 .nilCheck [.t 53],.f 55 0 (.T 54),
 .f 56 0 (.T 55),.d 57 (.T 56),.o 58 (.aR .neq) [.t 57,.i 0]] [53,57]) (.cond (.T 58) [3,20,21,22]
 (.seq (.g [.m 59 (.t 9),.o 60 .nilCheck [.t 59],.f 61 0 (.T 60),.o 62 (.load true 2 false) [.T 61],
 .n (.ai 1 2) [.t 2,.t 62]] [9,59,62]) .ret) [9] .skip)))))))) (.g [.o 63 (.aR .add) [.t 22,.i 1],
 .m 22 (.t 63)] [63]))))
def s11:aD:={ fV:=11,mode:=.pure,aF:=1,aP:=5,dM:=[],results:=[.box 2 1 2 true],body:=
 (.seq (.g [.o 1 (.gq 0 3) [.T 0],.o 2 (.aH 1 [.i 0,.i 0]) []] []) (.seq (.g [.o 11 (.aE 0 true 3 false) [.t 1],
 .c 12 10 [.T 11],.m 10 (.T 12),.o 13 (.extract 0) [.t 10],.o 14 (.extract 1) [.T 10],
 .o 3 (.aH 2 [.U,.U,.U,.i 0,.U]) [],.o 4 (.aH 3 [.i 0,.i 0]) [],.n (.ai 2 5) [.t 3,.T 13],
 .n (.ai 3 2) [.t 4,.t 14]] [1,14]) (.seq (.seq (.g [.f 15 0 (.t 4),.l 16 3 (.t 15),
 .o 17 (.aR .neq) [.t 16,.i 0]] [15,16]) (.cond (.T 17) [3] (.seq (.g [.o 18 (.aE 3 true 2 false) [.t 4],
 .n (.ai 1 2) [.t 2,.t 18]] [4,18]) .ret) [4] .skip)) (.seq (.seq (.g [.f 19 4 (.t 3),.l 20 2 (.t 19),
 .o 21 (.len .sl) [.t 20],.m 22 (.i 0)] [19]) (.block 0 (.loop Qp))) (.seq (.g [
 .o 64 (.build [.i 0,.i 0] []) [],.n (.ai 1 2) [.t 2,.t 64]] [64]) .ret))))) }
def Qq:bQ:=
 (.seq (.g [.o 27 (.aR .lss) [.t 26,.t 25]] []) (.seq (.cond (.T 27) [] .skip [24,25,26] (.exit 0)) (.seq (.block 1 (.seq (.g [
 .o 28 (.indexAddr 3) [.t 24,.t 26],.o 29 (.load true 3 false) [.T 28],.o 4 (.aH 1 [.str [],.U,.i 0]) [],
 .n (.ai 1 3) [.t 4,.T 29]] []) (.seq (.g [.f 30 1 (.t 4),.l 31 1 (.t 30),.o 32 (.len .sl) [.T 31],
 .o 33 (.aR .gtr) [.t 32,.i 8]] [4,30,32]) (.cond (.T 33) [1,24,25,26] (.seq (.g [.m 2 (.b true)] [])
 .ret) [] .skip)))) (.g [.o 34 (.aR .add) [.t 26,.i 1],.m 26 (.t 34)] [34]))))
def Qr:bQ:=
 (.seq (.g [.o 39 (.aR .lss) [.t 38,.t 37]] []) (.seq (.cond (.T 39) [] .skip [36,37,38] (.exit 2)) (.seq (.block 3 (.seq (.g [
 .o 40 (.indexAddr 7) [.t 36,.t 38],.o 41 (.load true 7 false) [.T 40],
 .o 6 (.aH 2 [.str [],.U,.bool false,.str [],.i 0,.U,.i 0]) [],.n (.ai 2 7) [.t 6,.T 41]] []) (.seq (.g [
 .f 42 1 (.t 6),.l 43 2 (.t 42),.o 44 (.len .sl) [.T 43],.o 45 (.aR .gtr) [.t 44,.i 6]] [6,42,44])
 (.cond (.T 45) [36,37,38] (.seq (.g [.m 2 (.b true)] []) .ret) [] .skip)))) (.g [
 .o 46 (.aR .add) [.t 38,.i 1],.m 38 (.t 46)] [46]))))
def s12:aD:={ fV:=12,mode:=.pure,aF:=1,aP:=3,dM:=[],results:=[.tmp 2 false],body:=
 (.seq (.g [.o 1 (.gq 0 3) [.T 0],.m 2 (.b false)] [2]) (.seq (.seq (.g [.f 7 0 (.t 1),
 .l 8 0 (.t 7),.o 9 (.len .sl) [.T 8],.o 10 (.aR .gtr) [.t 9,.i 12],.m 11 (.t 10),
 .z 12 (.fieldAddr 1) [.t 1] 11,.z 13 (.aE 0 false 1 false) [.t 12] 11,.z 14 (.len .sl) [.T 13] 11,.z 15 (.aR .gtr) [.t 14,.i 8] 11,
 .o 16 .pick [.t 11,.b true,.t 15],.m 17 (.t 16),.z 18 (.fieldAddr 2) [.t 1] 17,.z 19 (.aE 0 false 1 false) [.t 18] 17,
 .z 20 (.len .sl) [.T 19] 17,.z 21 (.aR .gtr) [.t 20,.i 16] 17,
 .o 22 .pick [.t 17,.b true,.t 21]] [7,9,10,11,12,13,14,15,16,17,18,19,20,21]) (.cond (.T 22) [1] (.seq (.g [
 .m 2 (.b true)] []) .ret) [] .skip)) (.seq (.seq (.g [.f 23 0 (.t 1),.l 24 0 (.t 23),
 .o 25 (.len .sl) [.t 24],.m 26 (.i 0)] [23]) (.block 0 (.loop Qq))) (.seq (.seq (.g [.f 35 2 (.t 1),
 .l 36 0 (.t 35),.o 37 (.len .sl) [.t 36],.m 38 (.i 0)] [1,35]) (.block 2 (.loop Qr))) (.seq (.g [
 .m 2 (.b false)] []) .ret))))) }
def Qs:bQ:=
 (.seq (.g [.o 25 (.aR .lss) [.t 24,.t 23]] []) (.seq (.cond (.T 25) [] .skip [22,23,24] (.exit 0)) (.seq (.block 1 (.seq (.g [
 .o 26 (.indexAddr 4) [.t 22,.t 24],.o 27 (.load true 4 false) [.T 26],.o 7 (.aH 2 [.str [],.i 0,.i 0,.i 0]) [],
 .n (.ai 2 4) [.t 7,.t 27]] [27]) (.r [.m 28 (.t 0),.m 29 (.t 0),.o 30 .nilCheck [.t 29],.f 31 5 (.T 30),
 .f 32 1 (.T 31),.o 33 (.load false 1 true) [.T 32],.f 34 1 (.t 7),.o 35 (.aE 2 true 3 false) [.t 34],
 .o 36 (.lit 3 1 [.i 0,.i 0,.i 0] [0]) [.t 35],.o 37 (.append 3 24) [.T 33,.T 36],.o 38 .nilCheck [.t 28],.f 39 5 (.T 38),
 .f 40 1 (.T 39),.n (.store 1) [.T 40,.T 37]] (some []) [7,28,29,34,35]))) (.g [.o 41 (.aR .add) [.t 24,.i 1],
 .m 24 (.t 41)] [41]))))
def s13:aD:={ fV:=13,mode:=.Ds,aF:=3,aP:=3,dM:=[],results:=[],body:=
 (.seq (.g [.o 4 (.gq 0 6) [.T 1],.o 5 (.gq 1 3) [.T 2]] []) (.seq (.g [.m 10 (.t 0),.f 11 1 (.t 4),
 .l 12 0 (.t 11),.o 13 (.len .sl) [.T 12],.f 14 2 (.t 4),.l 15 0 (.t 14),
 .f 16 3 (.t 4),.o 17 (.aE 0 true 3 false) [.t 16],
 .o 18 (.build [.i 0,.U,.bool false,.i 0,.i 0,.i 0,.U] [(0,1),(2,1),(3,3)]) [.t 13,.t 15,.t 17],.o 19 .nilCheck [.t 10],
 .f 20 5 (.T 19),.n (.store 7) [.T 20,.T 18]] [10,11,13,14,15,16,17]) (.seq (.seq (.g [.f 21 0 (.t 5),
 .l 22 1 (.t 21),.o 23 (.len .sl) [.t 22],.m 24 (.i 0)] [21]) (.block 0 (.loop Qs))) (.seq (.g [
 .m 42 (.t 0),.f 43 1 (.t 5),.l 44 1 (.t 43),.c 45 27 [.t 42,.T 44]] [5,42,43,45]) (.seq (.g [
 .o 8 .move [.const (.i (-1))]] []) (.seq (.seq (.g [.f 46 2 (.t 4),.l 47 0 (.t 46)] [46])
 (.cond (.T 47) [8] (.seq (.g [.m 9 (.i 1)] []) (.seq (.seq (.g [.f 48 3 (.t 4),
 .o 49 (.aE 0 true 3 false) [.t 48],.c 50 28 [.t 49]] [48,49]) (.cond (.T 50) [9] (.g [.m 9 (.i 2)] []) []
 .skip)) (.seq (.g [.m 51 (.t 0),.f 52 3 (.t 4),.o 53 (.aE 0 true 3 false) [.t 52],.c 54 29 [.t 51,.t 53],
 .m 8 (.t 54)] [4,51,52,53,54]) (.g [.m 55 (.t 0),.m 56 (.t 9),.m 57 (.t 8),
 .o 58 (.build [.i 0,.i 0,.i 0,.i 0,.i 0,.U] [(0,1),(1,1)]) [.t 56,.t 57],
 .c 59 30 [.t 55,.T 58]] [9,55,56,57,59])))) [4] .skip)) (.seq (.g [.m 60 (.t 0),.m 61 (.t 8),
 .o 62 (.build [.i 0,.i 0,.i 0,.i 0,.i 0,.U] [(0,1),(1,1)]) [.i 18,.t 61],
 .c 63 30 [.t 60,.T 62]] [8,60,61,63]) (.seq (.vI 0 11) (.r [.m 64 (.t 0),.m 65 (.t 0),.o 66 .nilCheck [.t 65],
 .f 67 0 (.T 66),.f 68 2 (.T 67),.o 69 (.load false 1 true) [.T 68],.m 70 (.t 0),.o 71 .nilCheck [.t 70],
 .f 72 5 (.T 71),.o 73 (.load true 7 false) [.T 72],
 .o 74 (.lit 7 1 [.i 0,.U,.bool false,.i 0,.i 0,.i 0,.U] [0]) [.T 73],.o 75 (.append 7 88) [.T 69,.T 74],
 .o 76 .nilCheck [.t 64],.f 77 0 (.T 76),.f 78 2 (.T 77),.n (.store 1) [.T 78,.T 75]] (some [(9,5)]) [0,64,65,70]))))))))) }
def Qt:bQ:=
 (.seq (.seq (.g [.m 14 (.t 5),.m 15 (.t 0),.o 16 (.len .str) [.t 15],.o 17 (.aR .lss) [.t 14,.t 16]] [14,15,16]) (.cond (.T 17) []
 .skip [5] (.exit 0))) (.block 1 (.seq (.g [.m 19 (.t 0),.m 20 (.t 5),.c 21 32 [.t 19,.t 20],.m 18 (.T 21),
 .o 22 (.extract 0) [.t 18],.o 23 (.extract 1) [.T 18],.o 6 (.aH 1 [.i 0,.str [],.i 0,.i 0]) [],.n (.ai 1 4) [.t 6,.t 22],
 .m 7 (.t 23)] [19,20,22,23]) (.seq (.seq (.g [.m 24 (.t 7),.o 25 (.aR .eql) [.t 24,.i 0]] [24])
 (.cond (.T 25) [0,4,6,7] (.seq (.g [.m 26 (.t 5),.o 27 (.build [.i 0,.i 0] [(0,1),(1,1)]) [.i 1,.t 26],
 .o 2 .move [.const .U],.n (.ai 0 2) [.t 3,.t 27]] [5,26,27]) .ret) [] .skip)) (.seq (.g [.m 28 (.T 4),
 .o 29 (.aE 1 true 4 false) [.t 6],.o 30 (.lit 4 1 [.i 0,.str [],.i 0,.i 0] [0]) [.t 29],.o 31 (.append 4 40) [.T 28,.T 30],
 .m 4 (.T 31)] [6,29]) (.g [.m 32 (.t 0),.m 33 (.t 5),.m 34 (.t 7),.o 35 (.aR .add) [.t 33,.t 34],
 .c 36 31 [.t 32,.t 35],.m 5 (.t 36)] [7,32,33,34,35,36]))))))
def s14:aD:={ fV:=14,mode:=.pure,aF:=1,aP:=2,dM:=[],results:=[.tmp 2 true,.box 3 0 2 true],body:=
 (.seq (.g [.o 2 .move [.const .U],.o 3 (.aH 0 [.i 0,.i 0]) []] [2]) (.seq (.seq (.g [.m 8 (.t 0),
 .o 9 (.len .str) [.t 8],.o 10 (.aR .gtr) [.t 9,.i 6000]] [8,9]) (.cond (.T 10) [0] (.seq (.g [
 .o 11 (.build [.i 0,.i 0] [(0,1)]) [.i 4],.o 2 .move [.const .U],.n (.ai 0 2) [.t 3,.t 11]] [11]) .ret) []
 .skip)) (.seq (.g [.o 4 .move [.const .U]] []) (.seq (.g [.m 12 (.t 0),.c 13 31 [.t 12,.i 0],
 .m 5 (.t 13)] [12,13]) (.seq (.block 0 (.loop Qt)) (.seq (.g [.m 37 (.T 4),.m 38 (.t 0),.o 39 (.len .str) [.t 38],
 .o 40 (.build [.i 0,.str [],.i 0,.i 0] [(0,1),(3,1)]) [.i 0,.t 39],
 .o 41 (.lit 4 1 [.i 0,.str [],.i 0,.i 0] [0]) [.t 40],.o 42 (.append 4 40) [.T 37,.T 41],
 .o 43 (.build [.i 0,.i 0] []) [],.m 2 (.T 42),.n (.ai 0 2) [.t 3,.t 43]] [0,38,39,40,43]) .ret)))))) }
def s15:aD:={ fV:=15,mode:=.l9,aF:=1,aP:=0,dM:=[],results:=[.tmp 2 false],body:=
 (.seq (.g [.m 2 (.b false)] [2]) (.seq (.g [.m 3 (.t 0),.o 4 .nilCheck [.t 3],.f 5 3 (.T 4),
 .f 6 0 (.T 5),.d 7 (.T 6),.o 8 (.aR .eql) [.t 7,.i 0],.m 2 (.t 8)] [0,3,7,8]) .ret)) }
def s16:aD:={ fV:=16,mode:=.l9,aF:=1,aP:=1,dM:=[],results:=[.box 2 0 4 true],body:=
 (.seq (.g [.o 2 (.aH 0 [.i 0,.str [],.i 0,.i 0]) []] []) (.seq (.seq (.r [.m 3 (.t 0),.o 4 .nilCheck [.t 3],
 .f 5 1 (.T 4),.d 6 (.T 5),.o 7 (.aR .lss) [.t 6,.i 0],.m 8 (.t 7),.z 9 .move [.t 0] 8,
 .z 10 .nilCheck [.t 9] 8,.z 11 (.fieldAddr 1) [.T 10] 8,.z 12 (.load false 1 false) [.T 11] 8,.z 13 .move [.t 0] 8,.z 14 .nilCheck [.t 13] 8,
 .z 15 (.fieldAddr 0) [.T 14] 8,.z 16 (.load false 1 false) [.T 15] 8,.z 17 (.len .sl) [.T 16] 8,.z 18 (.aR .geq) [.t 12,.t 17] 8,
 .o 19 .pick [.t 8,.b true,.t 18]] (some []) [3,6,7,8,9,10,11,12,13,14,15,16,17,18]) (.cond (.T 19) [0] (.seq (.g [
 .o 20 (.build [.i 0,.str [],.i 0,.i 0] [(0,1)]) [.i 0],.n (.ai 0 4) [.t 2,.t 20]] [20]) .ret) [] .skip)) (.seq
 (.r [.m 21 (.t 0),.o 22 .nilCheck [.t 21],.f 23 0 (.T 22),.d 24 (.T 23),.m 25 (.t 0),
 .o 26 .nilCheck [.t 25],.f 27 1 (.T 26),.d 28 (.T 27),.o 29 (.indexAddr 4) [.T 24,.t 28],
 .o 30 (.load true 4 false) [.T 29],.n (.ai 0 4) [.t 2,.t 30]] (some []) [0,21,25,28,30]) .ret))) }
def s17:aD:={ fV:=17,mode:=.l9,aF:=2,aP:=1,dM:=[],results:=[.tmp 4 false],body:=
 (.seq (.g [.m 4 (.b false)] [4]) (.seq (.g [.m 7 (.t 0),.c 8 16 [.t 7],
 .o 5 (.aH 0 [.i 0,.str [],.i 0,.i 0]) [],.n (.ai 0 4) [.t 5,.t 8]] [7,8]) (.seq (.g [
 .m 6 (.i 4)] []) (.seq (.seq (.g [.m 9 (.t 1),.o 10 .index [.t 9,.i 0],
 .o 11 (.aR .geq) [.t 10,.const (.int .u8 97)],.m 12 (.t 11),.y 13 .move [.t 1] 12,.y 14 .index [.t 13,.i 0] 12,
 .y 15 (.aR .leq) [.t 14,.const (.int .u8 122)] 12,.o 16 .pick [.t 12,.t 15,.b false]] [9,10,11,12,13,14,15]) (.cond (.T 16) [6] (.g [
 .m 6 (.i 3)] []) [] .skip)) (.seq (.g [.m 17 (.t 0),.c 18 15 [.t 17],.m 19 (.t 18),
 .y 20 (.fieldAddr 0) [.t 5] 19,.y 21 (.aE 0 false 1 false) [.t 20] 19,.y 22 .move [.t 6] 19,.y 23 (.aR .eql) [.t 21,.t 22] 19,
 .o 24 .pick [.t 19,.t 23,.b false],.m 25 (.t 24),.y 26 (.fieldAddr 1) [.t 5] 25,.y 27 (.aE 0 false 1 false) [.t 26] 25,
 .y 28 .move [.t 1] 25,.y 29 (.aR .eql) [.t 27,.t 28] 25,.o 30 .pick [.t 25,.t 29,.b false],
 .m 4 (.t 30)] [0,1,5,6,17,18,19,20,21,22,23,24,25,26,27,28,29,30]) .ret))))) }
def s18:aD:={ fV:=18,mode:=.l9,aF:=2,aP:=0,dM:=[],results:=[],body:=
 (.seq (.g [.m 4 (.t 0),.c 5 15 [.t 4]] [4]) (.cond (.T 5) [] (.g [.m 6 (.t 0),.m 7 (.t 1),.m 8 (.t 0),
 .c 9 16 [.t 8],.o 10 (.field 3 1 false) [.t 9],.o 11 (.build [.i 0,.i 0] [(0,1),(1,1)]) [.t 7,.t 10],.o 12 .nilCheck [.t 6],
 .f 13 3 (.T 12),.n (.store 2) [.T 13,.t 11]] [0,1,6,7,8,9,10,11]) [0,1] .skip)) }
def Qu:bQ:=
 (.seq (.seq (.g [.m 13 (.t 0),.c 14 15 [.t 13],.m 15 (.t 14),.y 16 .move [.t 0] 15,
 .y 17 (.call 17) [.t 16,.const (.str [125])] 15,.y 18 (.un .not) [.t 17] 15,.o 19 .pick [.t 15,.t 18,.b false]] [13,14,15,16,17,18])
 (.cond (.T 19) [] .skip [] (.exit 0))) (.block 1 (.seq (.seq (.g [.m 20 (.t 0),.c 21 16 [.t 20],.o 22 (.field 0 1 false) [.t 21],
 .o 23 (.aR .eql) [.t 22,.i 1],.m 24 (.t 23),.y 25 (.fieldAddr 1) [.t 3] 24,.y 26 (.aE 1 false 1 false) [.t 25] 24,
 .y 27 (.len .sl) [.T 26] 24,.y 28 (.aR .eql) [.t 27,.i 8] 24,
 .o 29 .pick [.t 24,.t 28,.b false]] [20,21,22,23,24,25,26,27,28]) (.cond (.T 29) [] (.seq (.g [.m 30 (.t 0),
 .c 31 18 [.t 30,.i 4]] [30,31]) (.exit 0)) [] .skip)) (.seq (.r [.f 32 1 (.t 3),
 .o 33 (.aE 1 false 1 true) [.t 32],.m 34 (.t 0),.c 35 20 [.t 34],.o 36 (.lit 4 1 [.str [],.str [],.i 0,.i 0] [0]) [.t 35],
 .o 37 (.append 4 48) [.T 33,.T 36],.f 38 1 (.t 3),.n (.ai 1 1) [.t 38,.T 37]] (some []) [32,34,35,38]) (.g [.m 39 (.t 0),
 .c 40 21 [.t 39,.const (.str [59])]] [39,40])))))
def s19:aD:={ fV:=19,mode:=.l9,aF:=1,aP:=2,dM:=[],results:=[.box 2 0 3 true],body:=
 (.seq (.g [.o 2 (.aH 0 [.str [],.U,.i 0]) []] []) (.seq (.g [.m 4 (.t 0),.c 5 16 [.t 4],
 .o 6 (.field 3 1 false) [.t 5],.o 7 (.build [.str [],.U,.i 0] [(2,1)]) [.t 6],.o 3 (.aH 1 [.str [],.U,.i 0]) [],
 .n (.ai 1 3) [.t 3,.T 7]] [4,5,6]) (.seq (.g [.m 8 (.t 0),.c 9 33 [.t 8],.f 10 0 (.t 3),
 .n (.ai 1 1) [.t 10,.t 9]] [8,9,10]) (.seq (.g [.m 11 (.t 0),.c 12 21 [.t 11,.const (.str [123])]] [11,12]) (.seq (.block 0
 (.loop Qu)) (.seq (.g [.m 41 (.t 0),.c 42 21 [.t 41,.const (.str [125])]] [0,41,42]) (.seq (.g [
 .o 43 (.aE 1 true 3 false) [.t 3],.n (.ai 0 3) [.t 2,.T 43]] [3]) .ret))))))) }
def s20:aD:={ fV:=20,mode:=.l9,aF:=1,aP:=2,dM:=[],results:=[.box 2 0 4 true],body:=
 (.seq (.g [.o 2 (.aH 0 [.str [],.str [],.i 0,.i 0]) []] []) (.seq (.g [.m 4 (.t 0),.c 5 16 [.t 4],
 .o 6 (.field 3 1 false) [.t 5],.o 7 (.build [.str [],.str [],.i 0,.i 0] [(3,1)]) [.t 6],
 .o 3 (.aH 1 [.str [],.str [],.i 0,.i 0]) [],.n (.ai 1 4) [.t 3,.t 7]] [4,5,6,7]) (.seq (.g [.m 8 (.t 0),
 .c 9 33 [.t 8],.f 10 0 (.t 3),.n (.ai 1 1) [.t 10,.t 9]] [8,9,10]) (.seq (.g [.m 11 (.t 0),
 .c 12 21 [.t 11,.const (.str [58])]] [11,12]) (.seq (.g [.m 13 (.t 0),.c 14 34 [.t 13],.f 15 1 (.t 3),
 .n (.ai 1 2) [.t 15,.t 14]] [0,13,14,15]) (.seq (.g [.o 16 (.aE 1 true 4 false) [.t 3],.n (.ai 0 4) [.t 2,.t 16]] [3,16])
 .ret)))))) }
def s21:aD:={ fV:=21,mode:=.l9,aF:=2,aP:=0,dM:=[],results:=[],body:=
 (.seq (.seq (.g [.m 4 (.t 0),.m 5 (.t 1),.c 6 17 [.t 4,.t 5],.o 7 (.un .not) [.t 6]] [1,4,5,6]) (.cond (.T 7) [] (.seq
 (.g [.m 8 (.t 0),.c 9 18 [.t 8,.i 2]] [0,8,9]) .ret) [] .skip)) (.g [.m 10 (.t 0),
 .o 11 .nilCheck [.t 10],.f 12 1 (.T 11),.d 13 (.T 12),.o 14 (.aR .add) [.t 13,.i 1],
 .o 15 .nilCheck [.t 10],.f 16 1 (.T 15),.n (.store 1) [.T 16,.t 14]] [0,10,13,14])) }
def Qv:bQ:=
 (.seq (.seq (.g [.m 13 (.t 0),.c 14 15 [.t 13],.m 15 (.t 14),.y 16 .move [.t 0] 15,
 .y 17 (.call 17) [.t 16,.const (.str [41])] 15,.y 18 (.un .not) [.t 17] 15,.o 19 .pick [.t 15,.t 18,.b false]] [13,14,15,16,17,18])
 (.cond (.T 19) [] .skip [] (.exit 0))) (.block 1 (.seq (.seq (.g [.m 20 (.t 0),.c 21 16 [.t 20],.o 22 (.field 0 1 false) [.t 21],
 .o 23 (.aR .eql) [.t 22,.i 1],.m 24 (.t 23),.y 25 (.fieldAddr 1) [.t 3] 24,.y 26 (.aE 1 false 1 false) [.t 25] 24,
 .y 27 (.len .sl) [.T 26] 24,.y 28 (.aR .eql) [.t 27,.i 6] 24,
 .o 29 .pick [.t 24,.t 28,.b false]] [20,21,22,23,24,25,26,27,28]) (.cond (.T 29) [] (.seq (.g [.m 30 (.t 0),
 .c 31 18 [.t 30,.i 4]] [30,31]) (.exit 0)) [] .skip)) (.seq (.r [.f 32 1 (.t 3),
 .o 33 (.aE 1 false 1 true) [.t 32],.m 34 (.t 0),.c 35 20 [.t 34],.o 36 (.lit 4 1 [.str [],.str [],.i 0,.i 0] [0]) [.t 35],
 .o 37 (.append 4 48) [.T 33,.T 36],.f 38 1 (.t 3),.n (.ai 1 1) [.t 38,.T 37]] (some []) [32,34,35,38]) (.seq (.g [.m 39 (.t 0),
 .c 40 17 [.t 39,.const (.str [41])],.o 41 (.un .not) [.t 40]] [39,40]) (.cond (.T 41) [] (.seq (.g [.m 42 (.t 0),
 .c 43 21 [.t 42,.const (.str [44])]] [42,43]) (.seq (.g [.m 44 (.t 0),.c 45 17 [.t 44,.const (.str [41])]] [44])
 (.cond (.T 45) [] (.g [.m 46 (.t 0),.c 47 18 [.t 46,.i 2]] [46,47]) [] .skip))) [] .skip))))))
def YR:aD:={ fV:=22,mode:=.l9,aF:=1,aP:=2,dM:=[],results:=[.box 2 0 7 true],body:=
 (.seq (.g [.o 2 (.aH 0 [.str [],.U,.bool false,.str [],.i 0,.U,.i 0]) []] []) (.seq (.g [.m 4 (.t 0),
 .c 5 16 [.t 4],.o 6 (.field 3 1 false) [.t 5],.o 7 (.build [.str [],.U,.bool false,.str [],.i 0,.U,.i 0] [(6,1)]) [.t 6],
 .o 3 (.aH 1 [.str [],.U,.bool false,.str [],.i 0,.U,.i 0]) [],.n (.ai 1 7) [.t 3,.T 7]] [4,5,6]) (.seq (.g [
 .m 8 (.t 0),.c 9 33 [.t 8],.f 10 0 (.t 3),.n (.ai 1 1) [.t 10,.t 9]] [8,9,10]) (.seq (.g [.m 11 (.t 0),
 .c 12 21 [.t 11,.const (.str [40])]] [11,12]) (.seq (.block 0 (.loop Qv)) (.seq (.g [.m 48 (.t 0),
 .c 49 21 [.t 48,.const (.str [41])]] [48,49]) (.seq (.seq (.g [.m 50 (.t 0),.c 51 17 [.t 50,.const (.str [58])]] [50])
 (.cond (.T 51) [] (.seq (.g [.m 52 (.t 0),.o 53 .nilCheck [.t 52],.f 54 1 (.T 53),.d 55 (.T 54),
 .o 56 (.aR .add) [.t 55,.i 1],.o 57 .nilCheck [.t 52],.f 58 1 (.T 57),.n (.store 1) [.T 58,.t 56]] [52,55,56]) (.seq
 (.g [.f 59 2 (.t 3),.n (.ai 1 1) [.t 59,.b true]] [59]) (.g [.m 60 (.t 0),.c 61 34 [.t 60],
 .f 62 3 (.t 3),.n (.ai 1 2) [.t 62,.t 61]] [60,61,62]))) [] .skip)) (.seq (.g [.m 63 (.t 0),.c 64 35 [.t 63],
 .f 65 5 (.t 3),.n (.ai 1 1) [.t 65,.T 64]] [0,63,65]) (.seq (.g [.o 66 (.aE 1 true 7 false) [.t 3],
 .n (.ai 0 7) [.t 2,.T 66]] [3]) .ret))))))))) }
def s23:aD:={ fV:=23,mode:=.pure,aF:=1,aP:=4,dM:=[],results:=[.box 2 1 4 true,.box 3 2 2 true],body:=
 (.seq (.g [.o 1 (.gq 0 3) [.T 0],.o 2 (.aH 1 [.U,.U,.U,.i 0]) [],.o 3 (.aH 2 [.i 0,.i 0]) []] [])
 (.seq (.g [.o 6 (.build [.U,.i 0,.i 0] []) [],.o 7 (.box 3) [.T 6],.m 4 (.t 7)] [7]) (.seq (.r [.m 8 (.t 4),
 .f 9 0 (.t 1),.l 10 0 (.t 9),.c 11 36 [.t 8,.T 10],.m 12 (.t 4),.f 13 1 (.t 1),
 .l 14 0 (.t 13),.c 15 37 [.t 12,.T 14],.m 16 (.t 4),.f 17 2 (.t 1),
 .l 18 0 (.t 17),.c 19 38 [.t 16,.T 18],
 .o 20 (.build [.U,.U,.U,.i 0] [(0,1),(1,1),(2,1)]) [.T 11,.T 15,.T 19],.o 5 (.aH 3 [.U,.U,.U,.i 0]) [],
 .n (.ai 3 4) [.t 5,.T 20]] (some []) [1,8,9,12,13,16,17]) (.seq (.g [.f 21 2 (.t 5),.l 22 3 (.t 21),
 .c 23 39 [.T 22,.const (.fn 40 [] [])],.f 24 3 (.t 5),.n (.ai 3 1) [.t 24,.t 23]] [21,23,24]) (.seq (.seq (.g [
 .f 25 3 (.t 5),.l 26 3 (.t 25),.o 27 (.aR .lss) [.t 26,.i 0]] [25,26]) (.cond (.T 27) []
 (.g [.m 28 (.t 4),.c 29 41 [.t 28,.i 0]] [28,29]) [] .skip)) (.seq (.seq (.g [.m 30 (.t 4),
 .o 31 .nilCheck [.t 30],.f 32 1 (.T 31),.f 33 0 (.T 32),.d 34 (.T 33),
 .o 35 (.aR .neq) [.t 34,.i 0]] [30,34]) (.cond (.T 35) [5] (.seq (.r [.o 36 (.build [.U,.U,.U,.i 0] []) [],
 .m 37 (.t 4),.o 38 .nilCheck [.t 37],.f 39 1 (.T 38),.o 40 (.load true 2 false) [.T 39],.n (.ai 1 4) [.t 2,.T 36],
 .n (.ai 2 2) [.t 3,.t 40]] (some []) [4,37,40]) .ret) [4] .skip)) (.seq (.g [.o 41 (.aE 3 true 4 false) [.t 5],
 .o 42 (.build [.i 0,.i 0] []) [],.n (.ai 1 4) [.t 2,.T 41],.n (.ai 2 2) [.t 3,.t 42]] [5,42]) .ret))))))) }
def s24:aD:={ fV:=24,mode:=.l9,aF:=3,aP:=3,dM:=[],results:=[.box 6 2 3 true],body:=
 (.seq (.g [.o 4 (.gq 0 7) [.T 1],.o 5 (.gq 1 6) [.T 2],.o 6 (.aH 2 [.U,.U,.i 0]) []] []) (.seq (.r [
 .m 8 (.t 0),.m 9 (.t 0),.o 10 (.aE 1 true 6 false) [.t 5],.f 11 1 (.t 5),.l 12 1 (.t 11),
 .c 13 42 [.T 12],.o 14 .nilCheck [.t 8],.f 15 5 (.T 14),.n (.store 6) [.T 15,.T 10],.o 16 .nilCheck [.t 9],
 .f 17 11 (.T 16),.n (.store 1) [.T 17,.T 13]] (some []) [5,8,9,11]) (.seq (.g [.m 18 (.t 0),.f 19 5 (.t 4),
 .l 20 0 (.t 19),.c 21 43 [.t 18,.T 20],.m 7 (.T 21)] [18,19]) (.seq (.r [.m 22 (.t 0),
 .o 23 .nilCheck [.t 22],.f 24 11 (.T 23),.d 25 (.T 24),.m 26 (.T 7),.f 27 6 (.t 4),
 .l 28 0 (.t 27),.o 29 (.build [.U,.U,.i 0] [(0,1),(1,1),(2,1)]) [.T 25,.T 26,.t 28],
 .n (.ai 2 3) [.t 6,.T 29]] (some []) [0,4,22,27,28]) .ret)))) }
def s25:aD:={ fV:=25,mode:=.l9,aF:=1,aP:=0,dM:=[],results:=[.tmp 2 false],body:=
 (.seq (.g [.m 2 (.b false)] [2]) (.seq (.g [.m 3 (.t 0),.o 4 .nilCheck [.t 3],.f 5 12 (.T 4),
 .f 6 0 (.T 5),.d 7 (.T 6),.o 8 (.aR .neq) [.t 7,.i 0],.m 2 (.t 8)] [0,3,7,8]) .ret)) }
def Qw:bQ:=
 (.seq (.g [.o 14 (.aR .lss) [.t 13,.t 12]] []) (.seq (.cond (.T 14) [] .skip [0,11,12,13] (.exit 0)) (.seq (.block 1 (.seq (.g [
 .o 15 (.indexAddr 9) [.t 11,.t 13],.o 16 (.load true 9 false) [.T 15],
 .o 8 (.aH 0 [.i 0,.str [],.str [],.i 0,.U,.U,.U,.i 0,.i 0]) [],.n (.ai 0 9) [.t 8,.T 16]] []) (.g [
 .m 17 (.t 0),.o 18 (.aE 0 true 9 false) [.t 8],.m 19 (.T 2),.c 20 45 [.t 17,.T 18,.T 19],.m 2 (.T 20)] [8,17])))
 (.g [.o 21 (.aR .add) [.t 13,.i 1],.m 13 (.t 21)] [21]))))
def s26:aD:={ fV:=26,mode:=.Ds,aF:=3,aP:=1,dM:=[],results:=[.tmp 6 true],body:=
 (.seq (.g [.o 6 .move [.const .U]] [6]) (.seq (.g [.m 9 (.T 2),.c 10 44 [.T 9],.m 2 (.T 10)] []) (.seq (.seq
 (.g [.m 11 (.T 1),.o 12 (.len .sl) [.t 11],.m 13 (.i 0)] []) (.block 0 (.loop Qw))) (.seq (.g [
 .m 22 (.T 2),.m 6 (.T 22)] []) .ret)))) }
def Qx:bQ:=
 (.seq (.g [.o 9 (.aR .lss) [.t 8,.t 7]] []) (.seq (.cond (.T 9) [] .skip [0,6,7,8] (.exit 0)) (.seq (.block 1 (.seq (.g [
 .o 10 (.indexAddr 9) [.t 6,.t 8],.o 11 (.load true 9 false) [.T 10],
 .o 5 (.aH 0 [.i 0,.str [],.str [],.i 0,.U,.U,.U,.i 0,.i 0]) [],.n (.ai 0 9) [.t 5,.T 11]] []) (.g [
 .m 12 (.t 0),.o 13 (.aE 0 true 9 false) [.t 5],.c 14 46 [.t 12,.T 13]] [5,12,14]))) (.g [
 .o 15 (.aR .add) [.t 8,.i 1],.m 8 (.t 15)] [15]))))
def s27:aD:={ fV:=27,mode:=.Ds,aF:=2,aP:=1,dM:=[],results:=[],body:=
 (.seq (.g [.m 6 (.T 1),.o 7 (.len .sl) [.t 6],.m 8 (.i 0)] []) (.block 0 (.loop Qx))) }
def YS:aD:={ fV:=28,mode:=.pure,aF:=1,aP:=1,dM:=[],results:=[.tmp 2 false],body:=
 (.seq (.g [.o 1 (.gq 0 3) [.t 0],.m 2 (.b false)] [0,2]) (.seq (.g [.f 3 0 (.t 1),
 .l 4 0 (.t 3),.o 5 (.aR .eql) [.t 4,.i 3],.m 6 (.t 5),.z 7 (.fieldAddr 2) [.t 1] 6,
 .z 8 (.aE 0 false 1 false) [.t 7] 6,.z 9 (.aR .gtr) [.t 8,.i 0] 6,.o 10 .pick [.t 6,.b true,.t 9],
 .m 2 (.t 10)] [1,3,4,5,6,7,8,9,10]) .ret)) }
def s29:aD:={ fV:=29,mode:=.l9,aF:=2,aP:=1,dM:=[],results:=[.tmp 4 false],body:=
 (.seq (.g [.o 3 (.gq 0 3) [.t 1],.m 4 (.i 0)] [1,4]) (.seq (.r [.m 5 (.t 0),.m 6 (.t 0),
 .o 7 .nilCheck [.t 6],.f 8 5 (.T 7),.f 9 1 (.T 8),.o 10 (.load false 1 true) [.T 9],.o 11 (.aE 0 true 3 false) [.t 3],
 .o 12 (.lit 3 1 [.i 0,.i 0,.i 0] [0]) [.t 11],.o 13 (.append 3 24) [.T 10,.T 12],.o 14 .nilCheck [.t 5],.f 15 5 (.T 14),
 .f 16 1 (.T 15),.n (.store 1) [.T 16,.T 13]] (some []) [3,5,6,11]) (.seq (.g [.m 17 (.t 0),.o 18 .nilCheck [.t 17],
 .f 19 5 (.T 18),.f 20 1 (.T 19),.d 21 (.T 20),.o 22 (.len .sl) [.T 21],
 .o 23 (.aR .sub) [.t 22,.i 1],.m 4 (.t 23)] [0,17,22,23]) .ret))) }
def s30:aD:={ fV:=30,mode:=.Ds,aF:=2,aP:=1,dM:=[],results:=[.tmp 4 false],body:=
 (.seq (.g [.o 3 (.gq 0 6) [.T 1],.m 4 (.i 0)] [4]) (.seq (.r [.m 5 (.t 0),.m 6 (.t 0),
 .o 7 .nilCheck [.t 6],.f 8 5 (.T 7),.f 9 6 (.T 8),.d 10 (.T 9),.o 11 (.aE 0 true 6 false) [.t 3],
 .o 12 (.lit 6 1 [.i 0,.i 0,.i 0,.i 0,.i 0,.U] [0]) [.T 11],.o 13 (.mc 6 64) [.T 10,.T 12],
 .o 14 .nilCheck [.t 5],.f 15 5 (.T 14),.f 16 6 (.T 15),.n (.store 1) [.T 16,.T 13]] (some []) [3,5,6]) (.seq (.g [
 .m 17 (.t 0),.o 18 .nilCheck [.t 17],.f 19 5 (.T 18),.f 20 6 (.T 19),.d 21 (.T 20),
 .o 22 (.len .sl) [.T 21],.o 23 (.aR .sub) [.t 22,.i 1],.m 4 (.t 23)] [0,17,22,23]) .ret))) }
def Qy:bQ:=
 (.seq (.seq (.g [.m 49 (.t 1),.m 50 (.t 0),.o 51 (.len .str) [.t 50],.o 52 (.aR .lss) [.t 49,.t 51],.m 53 (.t 52),
 .y 54 .move [.t 0] 53,.y 55 .move [.t 1] 53,.y 56 .index [.t 54,.t 55] 53,.y 57 (.aR .neq) [.t 56,.const (.int .u8 10)] 53,
 .o 58 .pick [.t 53,.t 57,.b false]] [49,50,51,52,53,54,55,56,57]) (.cond (.T 58) [] .skip [] (.exit 3))) (.block 4 (.g [
 .m 59 (.t 1),.o 60 (.aR .add) [.t 59,.i 1],.m 1 (.t 60)] [59,60])))
def Qz:bQ:=
 (.seq (.seq (.g [.m 5 (.t 1),.m 6 (.t 0),.o 7 (.len .str) [.t 6],.o 8 (.aR .lss) [.t 5,.t 7]] [5,6,7]) (.cond (.T 8) [] .skip [0]
 (.exit 0))) (.block 1 (.block 2 (.seq (.g [.m 11 (.t 0),.m 12 (.t 1),.o 13 .index [.t 11,.t 12],
 .o 14 (.aR .eql) [.t 13,.const (.int .u8 32)],.m 15 (.t 14),.z 16 .move [.t 0] 15,.z 17 .move [.t 1] 15,.z 18 .index [.t 16,.t 17] 15,
 .z 19 (.aR .eql) [.t 18,.const (.int .u8 9)] 15,.o 20 .pick [.t 15,.b true,.t 19],.m 21 (.t 20),.z 22 .move [.t 0] 21,
 .z 23 .move [.t 1] 21,.z 24 .index [.t 22,.t 23] 21,.z 25 (.aR .eql) [.t 24,.const (.int .u8 10)] 21,.o 26 .pick [.t 21,.b true,.t 25],
 .m 27 (.t 26),.z 28 .move [.t 0] 27,.z 29 .move [.t 1] 27,.z 30 .index [.t 28,.t 29] 27,.z 31 (.aR .eql) [.t 30,.const (.int .u8 13)] 27,
 .o 32 .pick [.t 27,.b true,.t 31],.m 10 (.t 32)] [11,12,13,14,15,16,17,18,19,20,21,22,23,24,25,26,27,28,29,30,31,32])
 (.cond (.T 10) [] (.g [.m 33 (.t 1),.o 34 (.aR .add) [.t 33,.i 1],.m 1 (.t 34)] [33,34]) [] (.seq (.g [
 .m 36 (.t 0),.o 37 (.len .str) [.t 36],.m 38 (.t 1),.o 39 (.aR .sub) [.t 37,.t 38],.o 40 (.aR .geq) [.t 39,.i 2],
 .m 41 (.t 40),.y 42 .move [.t 0] 41,.y 43 .move [.t 1] 41,.y 44 .move [.t 1] 41,.y 45 (.aR .add) [.t 44,.i 2] 41,
 .y 46 (.slice true true true false 0) [.t 42,.t 43,.t 45] 41,.y 47 (.aR .eql) [.t 46,.const (.str [47,47])] 41,
 .o 48 .pick [.t 41,.t 47,.b false],.m 35 (.t 48)] [36,37,38,39,40,41,42,43,44,45,46,47,48]) (.cond (.T 35) [] (.block 3
 (.loop Qy)) [0] (.seq (.g [.m 9 (.t 1),.m 4 (.t 9)] [1,9]) .ret))))))))
def s31:aD:={ fV:=31,mode:=.pure,aF:=2,aP:=0,dM:=[],results:=[.tmp 4 false],body:=
 (.seq (.g [.m 4 (.i 0)] [4]) (.seq (.block 0 (.loop Qz)) (.seq (.g [.m 61 (.t 1),
 .m 4 (.t 61)] [1,61]) .ret))) }
def Ke:aD:={ fV:=32,mode:=.pure,aF:=2,aP:=1,dM:=[],results:=[.box 4 0 4 true,.tmp 5 false],body:=
 (.seq (.g [.o 4 (.aH 0 [.i 0,.str [],.i 0,.i 0]) [],.m 5 (.i 0)] [5]) (.seq (.block 0 (.seq
 (.g [.m 13 (.t 0),.m 14 (.t 1),.o 15 .index [.t 13,.t 14],.c 16 47 [.t 15],.m 12 (.t 16)] [13,14,15,16])
 (.cond (.T 12) [] (.seq (.g [.m 17 (.t 0),.m 18 (.t 1),.c 19 48 [.t 17,.t 18,.b false],
 .m 6 (.t 19)] [17,18,19]) (.seq (.g [.m 20 (.t 0),.m 21 (.t 1),.m 22 (.t 1),.m 23 (.t 6),
 .o 24 (.aR .add) [.t 22,.t 23],.o 25 (.slice true true true false 0) [.t 20,.t 21,.t 24],.m 7 (.t 25)] [0,20,21,22,23,24,25]) (.seq (.seq
 (.g [.m 26 (.t 7),.c 27 49 [.t 26]] [26]) (.cond (.T 27) [] (.seq (.g [.m 28 (.t 7),.m 29 (.t 1),
 .o 30 (.build [.i 0,.str [],.i 0,.i 0] [(0,1),(1,1),(3,1)]) [.i 3,.t 28,.t 29],.m 31 (.t 6),
 .n (.ai 0 4) [.t 4,.t 30],.m 5 (.t 31)] [1,6,7,28,29,30,31]) .ret) [] .skip)) (.seq (.seq (.g [.m 32 (.t 7),
 .c 33 50 [.t 32]] [32]) (.cond (.T 33) [] (.seq (.g [.m 34 (.t 7),.m 35 (.t 1),
 .o 36 (.build [.i 0,.str [],.i 0,.i 0] [(0,1),(1,1),(3,1)]) [.i 1,.t 34,.t 35],.m 37 (.t 6),
 .n (.ai 0 4) [.t 4,.t 36],.m 5 (.t 37)] [1,6,7,34,35,36,37]) .ret) [1,6,7] .skip)) (.seq (.g [
 .o 38 (.build [.i 0,.str [],.i 0,.i 0] []) [],.n (.ai 0 4) [.t 4,.t 38],.m 5 (.i 0)] [38]) .ret))))) []
 (.seq (.g [.m 40 (.t 0),.m 41 (.t 1),.o 42 .index [.t 40,.t 41],.c 43 51 [.t 42],.m 39 (.t 43)] [40,41,42,43])
 (.cond (.T 39) [] (.seq (.g [.m 44 (.t 0),.m 45 (.t 1),.c 46 48 [.t 44,.t 45,.b true],
 .m 8 (.t 46)] [44,45,46]) (.seq (.g [.m 48 (.t 0),.m 49 (.t 1),.m 50 (.t 1),.m 51 (.t 8),
 .o 52 (.aR .add) [.t 50,.t 51],.o 53 (.slice true true true false 0) [.t 48,.t 49,.t 52],.c 54 52 [.t 53],.m 47 (.T 54),
 .o 55 (.extract 0) [.t 47],.o 56 (.extract 1) [.T 47],.m 9 (.t 55),.m 10 (.t 56)] [48,49,50,51,52,53,55,56]) (.seq (.seq (.g [
 .m 57 (.t 10),.o 58 (.un .not) [.t 57],.m 59 (.t 58),.z 60 .move [.t 8] 59,.z 61 (.aR .gtr) [.t 60,.i 1] 59,
 .z 62 .move [.t 61] 59,.y 63 .move [.t 0] 62,.y 64 .move [.t 1] 62,.y 65 .index [.t 63,.t 64] 62,.y 66 (.aR .eql) [.t 65,.const (.int .u8 48)] 62,
 .z 67 .pick [.t 62,.t 66,.b false] 59,.o 68 .pick [.t 59,.b true,.t 67],.m 69 (.t 68),.z 70 .move [.t 1] 69,
 .z 71 .move [.t 8] 69,.z 72 (.aR .add) [.t 70,.t 71] 69,.z 73 .move [.t 0] 69,.z 74 (.len .str) [.t 73] 69,.z 75 (.aR .lss) [.t 72,.t 74] 69,
 .z 76 .move [.t 75] 69,.y 77 .move [.t 0] 76,.y 78 .move [.t 1] 76,.y 79 .move [.t 8] 76,.y 80 (.aR .add) [.t 78,.t 79] 76,
 .y 81 .index [.t 77,.t 80] 76,.y 82 (.call 47) [.t 81] 76,.z 83 .pick [.t 76,.t 82,.b false] 69,
 .o 84 .pick [.t 69,.b true,.t 83]] [0,10,57,58,59,60,61,62,63,64,65,66,67,68,69,70,71,72,73,74,75,76,77,78,79,80,81,82,83])
 (.cond (.T 84) [1,8,9] (.seq (.g [.o 85 (.build [.i 0,.str [],.i 0,.i 0] []) [],.n (.ai 0 4) [.t 4,.t 85],
 .m 5 (.i 0)] [85]) .ret) [] .skip)) (.seq (.g [.m 86 (.t 9),.m 87 (.t 1),
 .o 88 (.build [.i 0,.str [],.i 0,.i 0] [(0,1),(2,1),(3,1)]) [.i 2,.t 86,.t 87],.m 89 (.t 8),
 .n (.ai 0 4) [.t 4,.t 88],.m 5 (.t 89)] [1,8,9,86,87,88,89]) .ret)))) [] .skip))))) (.seq (.g [.m 90 (.t 0),.m 91 (.t 1),
 .c 92 53 [.t 90,.t 91],.m 11 (.t 92)] [0,90,91,92]) (.seq (.seq (.g [.m 93 (.t 11),
 .o 94 (.aR .eql) [.t 93,.const (.str [])]] [93]) (.cond (.T 94) [1,11] (.seq (.g [
 .o 95 (.build [.i 0,.str [],.i 0,.i 0] []) [],.n (.ai 0 4) [.t 4,.t 95],.m 5 (.i 0)] [95]) .ret) []
 .skip)) (.seq (.g [.m 96 (.t 11),.m 97 (.t 1),
 .o 98 (.build [.i 0,.str [],.i 0,.i 0] [(0,1),(1,1),(3,1)]) [.i 4,.t 96,.t 97],.m 99 (.t 11),
 .o 100 (.len .str) [.t 99],.n (.ai 0 4) [.t 4,.t 98],.m 5 (.t 100)] [1,11,96,97,98,99,100]) .ret))))) }
def s33:aD:={ fV:=33,mode:=.l9,aF:=1,aP:=1,dM:=[],results:=[.tmp 2 false],body:=
 (.seq (.g [.o 2 .move [.const (.str [])]] [2]) (.seq (.g [.m 4 (.t 0),.c 5 16 [.t 4],
 .o 3 (.aH 0 [.i 0,.str [],.i 0,.i 0]) [],.n (.ai 0 4) [.t 3,.t 5]] [4,5]) (.seq (.seq (.g [.m 6 (.t 0),
 .c 7 15 [.t 6],.m 8 (.t 7),.y 9 (.fieldAddr 0) [.t 3] 8,.y 10 (.aE 0 false 1 false) [.t 9] 8,
 .y 11 (.aR .eql) [.t 10,.i 1] 8,.o 12 .pick [.t 8,.t 11,.b false]] [6,7,8,9,10,11]) (.cond (.T 12) [] (.seq (.g [
 .m 13 (.t 0),.o 14 .nilCheck [.t 13],.f 15 1 (.T 14),.d 16 (.T 15),
 .o 17 (.aR .add) [.t 16,.i 1],.o 18 .nilCheck [.t 13],.f 19 1 (.T 18),.n (.store 1) [.T 19,.t 17]] [0,13,16,17]) (.seq
 (.g [.f 20 1 (.t 3),.l 21 0 (.t 20),.m 2 (.t 21)] [3,20,21]) .ret)) [3] .skip)) (.seq (.g [
 .m 22 (.t 0),.c 23 18 [.t 22,.i 2]] [0,22,23]) (.seq (.g [.o 2 .move [.const (.str [])]] []) .ret))))) }
def QA:bQ:=
 (.seq (.seq (.g [.m 6 (.t 0),.c 7 17 [.t 6,.const (.str [91])]] [6]) (.cond (.T 7) [] .skip [] (.exit 0))) (.block 1 (.seq (.seq
 (.g [.m 8 (.t 3),.o 9 (.aR .eql) [.t 8,.i 3]] [8]) (.cond (.T 9) [3] (.seq (.g [.m 10 (.t 0),
 .c 11 18 [.t 10,.i 4]] [0,10,11]) (.seq (.g [.o 12 (.build [.str [],.i 0] []) [],
 .n (.ai 0 2) [.t 2,.t 12]] [12]) .ret)) [] .skip)) (.seq (.g [.m 13 (.t 0),.o 14 .nilCheck [.t 13],.f 15 1 (.T 14),
 .d 16 (.T 15),.o 17 (.aR .add) [.t 16,.i 1],.o 18 .nilCheck [.t 13],.f 19 1 (.T 18),
 .n (.store 1) [.T 19,.t 17]] [13,16,17]) (.g [.m 20 (.t 3),.o 21 (.aR .add) [.t 20,.i 1],
 .m 3 (.t 21)] [20,21])))))
def FA:bQ:=
 (.seq (.seq (.g [.m 43 (.t 5),.m 44 (.t 3),.o 45 (.aR .lss) [.t 43,.t 44]] [43,44]) (.cond (.T 45) [] .skip [0,3,5] (.exit 3)))
 (.seq (.block 4 (.g [.m 48 (.t 0),.c 49 21 [.t 48,.const (.str [93])]] [48,49])) (.g [.m 46 (.t 5),
 .o 47 (.aR .add) [.t 46,.i 1],.m 5 (.t 47)] [46,47])))
def s34:aD:={ fV:=34,mode:=.l9,aF:=1,aP:=2,dM:=[],results:=[.box 2 0 2 true],body:=
 (.seq (.g [.o 2 (.aH 0 [.str [],.i 0]) []] []) (.seq (.g [.m 3 (.i 0)] []) (.seq (.block 0
 (.loop QA)) (.seq (.g [.m 22 (.t 3),.o 23 (.build [.str [],.i 0] [(1,1)]) [.t 22],.o 4 (.aH 1 [.str [],.i 0]) [],
 .n (.ai 1 2) [.t 4,.t 23]] [22,23]) (.seq (.block 2 (.seq (.seq (.g [.m 28 (.t 0),.c 29 17 [.t 28,.const (.str [105,110,116])],
 .m 27 (.t 29)] [28,29]) (.cond (.t 27) [] .skip [27] (.g [.m 30 (.t 0),.c 31 17 [.t 30,.const (.str [98,111,111,108])],
 .m 27 (.t 31)] [30,31]))) (.cond (.T 27) [] (.seq (.g [.m 32 (.t 0),.c 33 16 [.t 32],.o 34 (.field 1 1 false) [.t 33],
 .f 35 0 (.t 4),.n (.ai 1 1) [.t 35,.t 34]] [32,33,34,35]) (.g [.m 36 (.t 0),.o 37 .nilCheck [.t 36],
 .f 38 1 (.T 37),.d 39 (.T 38),.o 40 (.aR .add) [.t 39,.i 1],.o 41 .nilCheck [.t 36],
 .f 42 1 (.T 41),.n (.store 1) [.T 42,.t 40]] [36,39,40])) [] (.g [.m 24 (.t 0),.c 25 33 [.t 24],
 .f 26 0 (.t 4),.n (.ai 1 1) [.t 26,.t 25]] [24,25,26])))) (.seq (.seq (.g [.m 5 (.i 0)] []) (.block 3
 (.loop FA))) (.seq (.g [.o 50 (.aE 1 true 2 false) [.t 4],.n (.ai 0 2) [.t 2,.t 50]] [4,50]) .ret))))))) }
def QB:bQ:=
 (.seq (.seq (.g [.m 6 (.t 0),.c 7 15 [.t 6],.m 8 (.t 7),.y 9 .move [.t 0] 8,.y 10 (.call 17) [.t 9,.const (.str [125])] 8,
 .y 11 (.un .not) [.t 10] 8,.o 12 .pick [.t 8,.t 11,.b false]] [6,7,8,9,10,11]) (.cond (.T 12) [] .skip [] (.exit 0))) (.block 1 (.g [
 .m 13 (.T 3),.m 14 (.t 0),.c 15 55 [.t 14],
 .o 16 (.lit 9 1 [.i 0,.str [],.str [],.i 0,.U,.U,.U,.i 0,.i 0] [0]) [.T 15],.o 17 (.append 9 136) [.T 13,.T 16],
 .m 3 (.T 17)] [14])))
def s35:aD:={ fV:=35,mode:=.l9,aF:=1,aP:=0,dM:=[],results:=[.tmp 2 true],body:=
 (.seq (.g [.o 2 .move [.const .U]] [2]) (.seq (.g [.o 3 .move [.const .U]] []) (.seq (.g [.m 4 (.t 0),
 .c 5 54 [.t 4,.const (.str [123])]] [4,5]) (.seq (.block 0 (.loop QB)) (.seq (.g [.m 18 (.t 0),
 .c 19 56 [.t 18,.const (.str [125])]] [0,18,19]) (.seq (.g [.m 20 (.T 3),.m 2 (.T 20)] []) .ret)))))) }
def QC:bQ:=
 (.seq (.g [.o 13 (.aR .lss) [.t 12,.t 11]] []) (.seq (.cond (.T 13) [] .skip [10,11,12] (.exit 0)) (.seq (.block 1 (.seq (.g [
 .o 14 (.indexAddr 3) [.t 10,.t 12],.o 15 (.load true 3 false) [.T 14],.o 6 (.aH 0 [.str [],.U,.i 0]) [],
 .n (.ai 0 3) [.t 6,.T 15]] []) (.seq (.seq (.r [.m 16 (.t 0),.o 17 .nilCheck [.t 16],.f 18 0 (.T 17),
 .d 19 (.T 18),.f 20 0 (.t 6),.l 21 0 (.t 20),
 .c 22 57 [.T 19,.t 21]] (some []) [16,20,21]) (.cond (.T 22) [] (.g [.m 23 (.t 0),.f 24 2 (.t 6),
 .l 25 0 (.t 24),.c 26 41 [.t 23,.t 25]] [23,24,25,26]) [] .skip)) (.r [.m 27 (.t 0),.m 28 (.t 0),
 .o 29 .nilCheck [.t 28],.f 30 0 (.T 29),.o 31 (.load false 1 true) [.T 30],.f 32 0 (.t 6),
 .l 33 0 (.t 32),.o 34 (.lit 1 1 [.str []] [0]) [.t 33],.o 35 (.append 1 16) [.T 31,.T 34],.o 36 .nilCheck [.t 27],
 .f 37 0 (.T 36),.n (.store 1) [.T 37,.T 35]] (some []) [6,27,28,32,33])))) (.g [.o 38 (.aR .add) [.t 12,.i 1],
 .m 12 (.t 38)] [38]))))
def QD:bQ:=
 (.seq (.g [.o 42 (.aR .lss) [.t 41,.t 40]] []) (.seq (.cond (.T 42) [] .skip [0,39,40,41] (.exit 2)) (.seq (.block 3 (.seq (.g [
 .o 43 (.indexAddr 3) [.t 39,.t 41],.o 44 (.load true 3 false) [.T 43],.o 9 (.aH 1 [.str [],.U,.i 0]) [],
 .n (.ai 1 3) [.t 9,.T 44]] []) (.r [.m 45 (.T 7),.f 46 0 (.t 9),.l 47 1 (.t 46),
 .m 48 (.t 0),.f 49 1 (.t 9),.l 50 1 (.t 49),.c 51 37 [.t 48,.T 50],
 .o 52 (.build [.str [],.U] [(0,1),(1,1)]) [.t 47,.T 51],.o 53 (.lit 2 1 [.str [],.U] [0]) [.T 52],.o 54 (.append 2 40) [.T 45,.T 53],
 .m 7 (.T 54)] (some []) [9,46,47,48,49]))) (.g [.o 55 (.aR .add) [.t 41,.i 1],.m 41 (.t 55)] [55]))))
def s36:aD:={ fV:=36,mode:=.l9,aF:=2,aP:=2,dM:=[],results:=[.tmp 4 true],body:=
 (.seq (.g [.o 4 .move [.const .U]] [4]) (.seq (.seq (.g [.m 10 (.t 1),.o 11 (.len .sl) [.t 10],
 .m 12 (.i 0)] []) (.block 0 (.loop QC))) (.seq (.g [.o 7 .move [.const .U]] []) (.seq (.seq (.g [
 .m 39 (.T 1),.o 40 (.len .sl) [.t 39],.m 41 (.i 0)] []) (.block 2 (.loop QD))) (.seq (.g [.m 56 (.T 7),
 .m 4 (.T 56)] []) .ret))))) }
def QE:bQ:=
 (.seq (.g [.o 15 (.aR .lss) [.t 14,.t 13]] []) (.seq (.cond (.T 15) [] .skip [0,6,12,13,14] (.exit 0)) (.seq (.block 1 (.seq (.g [
 .o 16 (.indexAddr 4) [.t 12,.t 14],.o 17 (.load true 4 false) [.T 16],.o 8 (.aH 0 [.str [],.str [],.i 0,.i 0]) [],
 .n (.ai 0 4) [.t 8,.t 17]] [17]) (.seq (.seq (.g [.m 19 (.t 6),.f 20 0 (.t 8),.l 21 0 (.t 20),
 .o 22 (.lookup .str (.agg []) true) [.t 19,.t 21],.m 18 (.T 22),.o 23 (.extract 0) [.t 18],.o 24 (.extract 1) [.T 18],.o 9 (.aH 1 []) [],
 .n (.ai 1 0) [.t 9,.t 23],.m 10 (.t 24)] [9,19,20,21,23,24]) (.seq (.g [.m 25 (.t 10)] [10]) (.cond (.T 25) [] (.g [
 .m 26 (.t 0),.f 27 3 (.t 8),.l 28 0 (.t 27),.c 29 41 [.t 26,.t 28]] [26,27,28,29]) [] .skip))) (.seq
 (.g [.m 30 (.t 6),.f 31 0 (.t 8),.l 32 0 (.t 31),.o 33 (.build [] []) [],
 .n (.mapUpdate .str) [.t 30,.t 32,.t 33]] [30,31,32,33]) (.r [.m 34 (.T 5),.f 35 0 (.t 8),
 .l 36 0 (.t 35),.m 37 (.t 0),.f 38 1 (.t 8),.o 39 (.aE 0 true 2 false) [.t 38],.f 40 3 (.t 8),
 .l 41 0 (.t 40),.c 42 58 [.t 37,.t 39,.t 41],
 .o 43 (.build [.str [],.i 0,.i 0,.i 0] [(0,1),(1,3)]) [.t 36,.t 42],
 .o 44 (.lit 4 1 [.str [],.i 0,.i 0,.i 0] [0]) [.t 43],.o 45 (.append 4 40) [.T 34,.T 44],
 .m 5 (.T 45)] (some []) [8,35,36,37,38,39,40,41,42,43]))))) (.g [.o 46 (.aR .add) [.t 14,.i 1],
 .m 14 (.t 46)] [46]))))
def s37:aD:={ fV:=37,mode:=.l9,aF:=2,aP:=2,dM:=[],results:=[.tmp 4 true],body:=
 (.seq (.g [.o 4 .move [.const .U]] [4]) (.seq (.g [.o 5 .move [.const .U]] []) (.seq (.g [.o 11 .makeMap [],
 .m 6 (.t 11)] [11]) (.seq (.seq (.g [.m 12 (.T 1),.o 13 (.len .sl) [.t 12],.m 14 (.i 0)] []) (.block 0
 (.loop QE))) (.seq (.g [.m 47 (.T 5),.m 4 (.T 47)] []) .ret))))) }
def QF:bQ:=
 (.seq (.g [.o 16 (.aR .lss) [.t 15,.t 14]] []) (.seq (.cond (.T 16) [] .skip [0,6,13,14,15] (.exit 0)) (.seq (.block 1 (.seq (.g [
 .o 17 (.indexAddr 7) [.t 13,.t 15],.o 18 (.load true 7 false) [.T 17],
 .o 8 (.aH 0 [.str [],.U,.bool false,.str [],.i 0,.U,.i 0]) [],.n (.ai 0 7) [.t 8,.T 18]] []) (.seq (.seq (.g [
 .m 20 (.t 6),.f 21 0 (.t 8),.l 22 0 (.t 21),.o 23 (.lookup .str (.agg []) true) [.t 20,.t 22],
 .m 19 (.T 23),.o 24 (.extract 0) [.t 19],.o 25 (.extract 1) [.T 19],.o 9 (.aH 1 []) [],.n (.ai 1 0) [.t 9,.t 24],
 .m 10 (.t 25)] [9,20,21,22,24,25]) (.seq (.g [.m 26 (.t 10)] [10]) (.cond (.T 26) [] (.g [.m 27 (.t 0),
 .f 28 6 (.t 8),.l 29 0 (.t 28),.c 30 41 [.t 27,.t 29]] [27,28,29,30]) [] .skip))) (.seq (.g [
 .m 31 (.t 6),.f 32 0 (.t 8),.l 33 0 (.t 32),.o 34 (.build [] []) [],
 .n (.mapUpdate .str) [.t 31,.t 33,.t 34]] [31,32,33,34]) (.seq (.r [.f 35 0 (.t 8),.l 36 0 (.t 35),
 .m 37 (.t 0),.f 38 1 (.t 8),.l 39 0 (.t 38),.c 40 37 [.t 37,.T 39],.f 41 2 (.t 8),
 .l 42 0 (.t 41),
 .o 43 (.build [.str [],.U,.bool false,.i 0,.i 0,.i 0] [(0,1),(1,1),(2,1)]) [.t 36,.T 40,.t 42],
 .o 11 (.aH 2 [.str [],.U,.bool false,.i 0,.i 0,.i 0]) [],.n (.ai 2 6) [.t 11,.T 43]] (some []) [35,36,37,38,41,42]) (.seq
 (.seq (.g [.f 44 2 (.t 8),.l 45 0 (.t 44)] [44]) (.cond (.T 45) [] (.g [.m 46 (.t 0),
 .f 47 3 (.t 8),.o 48 (.aE 0 true 2 false) [.t 47],.f 49 6 (.t 8),.l 50 0 (.t 49),
 .c 51 58 [.t 46,.t 48,.t 50],.f 52 3 (.t 11),.n (.ai 2 3) [.t 52,.t 51]] [8,46,47,48,49,50,51,52]) [8] .skip)) (.g [
 .m 53 (.T 5),.o 54 (.aE 2 true 6 false) [.t 11],.o 55 (.lit 6 1 [.str [],.U,.bool false,.i 0,.i 0,.i 0] [0]) [.T 54],
 .o 56 (.append 6 72) [.T 53,.T 55],.m 5 (.T 56)] [11]))))))) (.g [.o 57 (.aR .add) [.t 15,.i 1],
 .m 15 (.t 57)] [57]))))
def s38:aD:={ fV:=38,mode:=.l9,aF:=2,aP:=3,dM:=[],results:=[.tmp 4 true],body:=
 (.seq (.g [.o 4 .move [.const .U]] [4]) (.seq (.g [.o 5 .move [.const .U]] []) (.seq (.g [.o 12 .makeMap [],
 .m 6 (.t 12)] [12]) (.seq (.seq (.g [.m 13 (.T 1),.o 14 (.len .sl) [.t 13],.m 15 (.i 0)] []) (.block 0
 (.loop QF))) (.seq (.g [.m 58 (.T 5),.m 4 (.T 58)] []) .ret))))) }
def Kf:bQ:=
 (.seq (.g [.o 9 (.aR .lss) [.t 8,.t 7]] []) (.seq (.cond (.T 9) [] .skip [0,1,7,8] (.exit 0)) (.seq (.block 1 (.seq (.g [.m 10 (.t 8),
 .m 5 (.t 10)] [10]) (.seq (.g [.m 11 (.t 1),.m 12 (.t 0),.m 13 (.t 5),.o 14 (.indexAddr 6) [.T 12,.t 13],
 .o 15 (.load true 6 false) [.T 14],.o 16 .pz [.t 11,.T 15]] [11,13]) (.cond (.T 16) [0,1,7,8] (.seq (.g [.m 17 (.t 5),
 .m 4 (.t 17)] [5,17]) .ret) [5] .skip)))) (.g [.o 18 (.aR .add) [.t 8,.i 1],.m 8 (.t 18)] [18]))))
def s39:aD:={ fV:=39,mode:=.l9,aF:=2,aP:=0,dM:=[],results:=[.tmp 4 false],body:=
 (.seq (.g [.m 4 (.i 0)] [4]) (.seq (.seq (.g [.m 6 (.t 0),.o 7 (.len .sl) [.T 6],
 .m 8 (.i 0)] []) (.block 0 (.loop Kf))) (.seq (.g [.o 4 .move [.const (.i (-1))]] []) .ret))) }
def s40:aD:={ fV:=40,mode:=.pure,aF:=1,aP:=1,dM:=[],results:=[.tmp 2 false],body:=
 (.seq (.g [.o 1 (.gq 0 6) [.T 0],.m 2 (.b false)] [2]) (.seq (.g [.f 3 0 (.t 1),
 .l 4 0 (.t 3),.o 5 (.aR .eql) [.t 4,.const (.str [109,97,105,110])],.m 6 (.t 5),.y 7 (.fieldAddr 1) [.t 1] 6,
 .y 8 (.aE 0 false 1 false) [.t 7] 6,.y 9 (.len .sl) [.T 8] 6,.y 10 (.aR .eql) [.t 9,.i 0] 6,
 .o 11 .pick [.t 6,.t 10,.b false],.m 12 (.t 11),.y 13 (.fieldAddr 2) [.t 1] 12,.y 14 (.aE 0 false 1 false) [.t 13] 12,
 .y 15 (.un .not) [.t 14] 12,.o 16 .pick [.t 12,.t 15,.b false],.m 2 (.t 16)] [1,3,4,5,6,7,8,9,10,11,12,13,14,15,16]) .ret)) }
def s41:aD:={ fV:=41,mode:=.l9,aF:=2,aP:=0,dM:=[],results:=[],body:=
 (.seq (.g [.m 4 (.t 0),.o 5 .nilCheck [.t 4],.f 6 1 (.T 5),.f 7 0 (.T 6),.d 8 (.T 7),
 .o 9 (.aR .eql) [.t 8,.i 0]] [4,8]) (.cond (.T 9) [] (.g [.m 10 (.t 0),.m 11 (.t 1),
 .o 12 (.build [.i 0,.i 0] [(0,1),(1,1)]) [.i 3,.t 11],.o 13 .nilCheck [.t 10],.f 14 1 (.T 13),
 .n (.store 2) [.T 14,.t 12]] [0,1,10,11,12]) [0,1] .skip)) }
def s42:aD:={ fV:=42,mode:=.pure,aF:=1,aP:=0,dM:=[],results:=[.tmp 2 true],body:=
 (.seq (.g [.o 2 .move [.const .U]] [2]) (.seq (.seq (.g [.m 3 (.t 0),.o 4 (.Ai .sl false) [.T 3,.const .U]] [])
 (.cond (.T 4) [0] (.seq (.g [.o 2 .move [.const .U]] []) .ret) [] .skip)) (.seq (.g [
 .o 5 (.lit 4 0 [.str [],.i 0,.i 0,.i 0] []) [],.m 6 (.T 0),.o 7 (.append 4 40) [.T 5,.T 6],.m 2 (.T 7)] []) .ret))) }
def Cn:bQ:=
 (.seq (.g [.o 11 (.aR .lss) [.t 10,.t 9]] []) (.seq (.cond (.T 11) [] .skip [0,8,9,10] (.exit 0)) (.seq (.block 1 (.seq (.g [
 .o 12 (.indexAddr 9) [.t 8,.t 10],.o 13 (.load true 9 false) [.T 12],
 .o 7 (.aH 0 [.i 0,.str [],.str [],.i 0,.U,.U,.U,.i 0,.i 0]) [],.n (.ai 0 9) [.t 7,.T 13]] []) (.seq
 (.seq (.g [.m 14 (.t 0),.c 15 25 [.t 14]] [14]) (.cond (.T 15) [0,5,7,8,9,10] (.seq (.g [.o 4 .move [.const .U]] [])
 .ret) [] .skip)) (.g [.m 16 (.T 5),.m 17 (.t 0),.o 18 (.aE 0 true 9 false) [.t 7],.c 19 59 [.t 17,.T 18],
 .o 20 (.lit 9 1 [.i 0,.str [],.str [],.i 0,.U,.U,.U,.i 0,.i 0] [0]) [.T 19],.o 21 (.append 9 136) [.T 16,.T 20],
 .m 5 (.T 21)] [7,17])))) (.g [.o 22 (.aR .add) [.t 10,.i 1],.m 10 (.t 22)] [22]))))
def W0:aD:={ fV:=43,mode:=.l9,aF:=2,aP:=1,dM:=[],results:=[.tmp 4 true],body:=
 (.seq (.g [.o 4 .move [.const .U]] [4]) (.seq (.g [.o 5 .move [.const .U]] []) (.seq (.seq (.g [.m 8 (.T 1),
 .o 9 (.len .sl) [.t 8],.m 10 (.i 0)] []) (.block 0 (.loop Cn))) (.seq (.g [.m 23 (.T 5),
 .m 4 (.T 23)] []) .ret)))) }
def s44:aD:={ fV:=44,mode:=.Ds,aF:=1,aP:=0,dM:=[],results:=[.tmp 2 true],body:=
 (.seq (.g [.o 2 .move [.const .U]] [2]) (.seq (.seq (.g [.m 3 (.t 0),.o 4 (.K7 false) [.T 3,.const .U]] [])
 (.cond (.T 4) [0] (.seq (.g [.o 2 .move [.const .U]] []) .ret) [] .skip)) (.seq (.g [.o 5 (.lit 1 0 [.bool false] []) [],
 .m 6 (.T 0),.o 7 (.mc 1 1) [.T 5,.T 6],.m 2 (.T 7)] []) .ret))) }
def Kg:bQ:=
 (.seq (.g [.o 17 (.aR .lss) [.t 16,.t 15]] []) (.seq (.cond (.T 17) [] .skip [14,15,16] (.exit 0)) (.seq (.block 1 (.seq (.g [
 .o 18 (.indexAddr 11) [.t 14,.t 16],.o 19 (.load true 11 false) [.T 18],
 .o 8 (.aH 1 [.i 0,.i 0,.str [],.str [],.i 0,.U,.i 0,.i 0,.i 0,.i 0,.i 0]) [],
 .n (.ai 1 11) [.t 8,.T 19]] []) (.g [.m 20 (.t 0),.o 21 (.aE 1 true 11 false) [.t 8],.m 22 (.t 2),
 .c 23 60 [.t 20,.T 21,.T 22]] [8,20,23]))) (.g [.o 24 (.aR .add) [.t 16,.i 1],.m 16 (.t 24)] [24]))))
def QG:bQ:=
 (.seq (.g [.o 48 (.aR .lss) [.t 47,.t 46]] []) (.seq (.cond (.T 48) [] .skip [46,47] (.exit 3)) (.seq (.block 4 (.seq (.g [
 .m 49 (.t 47),.m 9 (.t 49)] [49]) (.g [.m 50 (.t 2),.m 51 (.t 9),.o 52 (.indexAddr 1) [.T 50,.t 51],
 .n (.store 1) [.T 52,.b true]] [9,51]))) (.g [.o 53 (.aR .add) [.t 47,.i 1],.m 47 (.t 53)] [53]))))
def QH:bQ:=
 (.seq (.g [.o 76 (.aR .lss) [.t 75,.t 74]] []) (.seq (.cond (.T 76) [] .skip [10,11,74,75] (.exit 5)) (.seq (.block 6 (.seq (.g [
 .m 77 (.t 75),.m 12 (.t 77)] [77]) (.g [.m 78 (.t 2),.m 79 (.t 12),.m 80 (.t 10),.m 81 (.t 12),
 .o 82 (.indexAddr 1) [.T 80,.t 81],.d 83 (.T 82),.m 84 (.t 83),.y 85 .move [.t 11] 84,.y 86 .move [.t 12] 84,
 .y 87 (.indexAddr 1) [.T 85,.t 86] 84,.y 88 (.load false 1 false) [.T 87] 84,.o 89 .pick [.t 84,.t 88,.b false],
 .o 90 (.indexAddr 1) [.T 78,.t 79],.n (.store 1) [.T 90,.t 89]] [12,79,81,83,84,85,86,87,88,89]))) (.g [
 .o 91 (.aR .add) [.t 75,.i 1],.m 75 (.t 91)] [91]))))
def H6:aD:={ fV:=45,mode:=.Ds,aF:=3,aP:=2,dM:=[],results:=[.tmp 6 true],body:=
 (.seq (.g [.o 4 (.gq 0 9) [.T 1],.o 6 .move [.const .U]] [6]) (.seq (.seq (.g [.f 13 4 (.t 4),
 .l 14 0 (.t 13),.o 15 (.len .sl) [.t 14],.m 16 (.i 0)] [13]) (.block 0 (.loop Kg))) (.seq (.seq
 (.g [.f 25 0 (.t 4),.l 26 0 (.t 25)] [25]) (.block 2 (.seq (.g [
 .o 28 (.aR .eql) [.t 26,.i 1],.m 27 (.t 28)] [28]) (.cond (.T 27) [0,26] (.g [.m 29 (.t 2),
 .f 30 8 (.t 4),.l 31 0 (.t 30),.o 32 (.indexAddr 1) [.T 29,.t 31],
 .n (.store 1) [.T 32,.b false]] [4,30,31]) [] (.seq (.seq (.g [.o 34 (.aR .eql) [.t 26,.i 2],
 .m 33 (.t 34)] [34]) (.cond (.t 33) [] .skip [33] (.g [.o 35 (.aR .eql) [.t 26,.i 3],.m 33 (.t 35)] [35])))
 (.cond (.T 33) [0,26] (.seq (.g [.f 36 8 (.t 4),.l 37 0 (.t 36),
 .o 38 (.aR .geq) [.t 37,.i 0]] [36,37]) (.cond (.T 38) [] (.g [.m 39 (.t 2),.f 40 8 (.t 4),
 .l 41 0 (.t 40),.o 42 (.indexAddr 1) [.T 39,.t 41],.n (.store 1) [.T 42,.b true]] [4,40,41]) [4] .skip)) [] (.seq
 (.g [.o 44 (.aR .eql) [.t 26,.i 7],.m 43 (.t 44)] [44]) (.cond (.T 43) [0,4,26] (.seq (.g [.m 45 (.t 2),
 .o 46 (.len .sl) [.T 45],.m 47 (.i 0)] []) (.block 3 (.loop QG))) [] (.seq (.g [
 .o 55 (.aR .eql) [.t 26,.i 6],.m 54 (.t 55)] [55]) (.cond (.T 54) [26] (.g [.m 56 (.t 0),
 .f 57 5 (.t 4),.l 58 0 (.t 57),.m 59 (.t 2),.c 60 26 [.t 56,.T 58,.T 59]] [0,4,56,57,60]) [] (.seq
 (.g [.o 62 (.aR .eql) [.t 26,.i 5],.m 61 (.t 62)] [26,62]) (.cond (.T 61) [] (.seq (.r [.m 63 (.t 0),
 .f 64 5 (.t 4),.l 65 0 (.t 64),.m 66 (.t 2),.c 67 26 [.t 63,.T 65,.T 66],.m 68 (.t 0),
 .f 69 6 (.t 4),.l 70 0 (.t 69),.m 71 (.t 2),.c 72 26 [.t 68,.T 70,.T 71],.m 10 (.T 67),
 .m 11 (.T 72)] (some []) [0,4,63,64,68,69]) (.seq (.g [.m 73 (.t 2),.o 74 (.len .sl) [.T 73],.m 75 (.i 0)] [])
 (.block 5 (.loop QH)))) [0,4] .skip)))))))))))) (.seq (.g [.m 92 (.T 2),.m 6 (.T 92)] []) .ret)))) }
def FB:aD:={ fV:=46,mode:=.Ds,aF:=2,aP:=1,dM:=[],results:=[],body:=
 (.seq (.g [.o 3 (.gq 0 9) [.T 1]] []) (.seq (.g [.f 5 0 (.t 3),.l 6 0 (.t 5)] [5]) (.block 0
 (.seq (.seq (.g [.o 8 (.aR .eql) [.t 6,.i 2],.m 7 (.t 8)] [8]) (.cond (.t 7) [] .skip [7] (.g [
 .o 9 (.aR .eql) [.t 6,.i 3],.m 7 (.t 9)] [9]))) (.cond (.T 7) [6] (.g [.m 10 (.t 0),
 .o 11 (.aE 0 true 9 false) [.t 3],.c 12 61 [.t 10,.T 11]] [0,3,10,12]) [] (.seq (.g [.o 14 (.aR .eql) [.t 6,.i 4],
 .m 13 (.t 14)] [14]) (.cond (.T 13) [6] (.g [.m 15 (.t 0),.o 16 (.aE 0 true 9 false) [.t 3],
 .c 17 62 [.t 15,.T 16]] [0,3,15,17]) [] (.seq (.g [.o 19 (.aR .eql) [.t 6,.i 5],.m 18 (.t 19)] [19])
 (.cond (.T 18) [6] (.g [.m 20 (.t 0),.o 21 (.aE 0 true 9 false) [.t 3],.c 22 63 [.t 20,.T 21]] [0,3,20,22]) [] (.seq (.g [
 .o 24 (.aR .eql) [.t 6,.i 6],.m 23 (.t 24)] [24]) (.cond (.T 23) [6] (.g [.m 25 (.t 0),
 .o 26 (.aE 0 true 9 false) [.t 3],.c 27 64 [.t 25,.T 26]] [0,3,25,27]) [] (.seq (.g [.o 29 (.aR .eql) [.t 6,.i 7],
 .m 28 (.t 29)] [29]) (.cond (.T 28) [6] (.seq (.g [.o 4 .move [.const (.i (-1))]] []) (.seq (.seq (.g [
 .f 30 4 (.t 3),.l 31 0 (.t 30),.o 32 (.len .sl) [.T 31],.o 33 (.aR .gtr) [.t 32,.i 0]] [30,32])
 (.cond (.T 33) [4] (.g [.m 34 (.t 0),.f 35 4 (.t 3),.l 36 0 (.t 35),
 .o 37 (.indexAddr 11) [.T 36,.i 0],.o 38 (.load true 11 false) [.T 37],.c 39 65 [.t 34,.T 38],
 .m 4 (.t 39)] [3,34,35,39]) [3] .skip)) (.g [.m 40 (.t 0),.m 41 (.t 4),
 .o 42 (.build [.i 0,.i 0,.i 0,.i 0,.i 0,.U] [(0,1),(1,1)]) [.i 18,.t 41],
 .c 43 30 [.t 40,.T 42]] [0,4,40,41,43]))) [] (.seq (.g [.o 45 (.aR .eql) [.t 6,.i 8],.m 44 (.t 45)] [45])
 (.cond (.T 44) [6] (.g [.m 46 (.t 0),.m 47 (.t 0),.f 48 4 (.t 3),.l 49 0 (.t 48),
 .o 50 (.indexAddr 11) [.T 49,.i 0],.o 51 (.load true 11 false) [.T 50],.c 52 65 [.t 47,.T 51],
 .o 53 (.build [.i 0,.i 0,.i 0,.i 0,.i 0,.U] [(0,1),(1,1)]) [.i 15,.t 52],
 .c 54 30 [.t 46,.T 53]] [0,3,46,47,48,52,54]) [] (.seq (.g [.o 56 (.aR .eql) [.t 6,.i 9],
 .m 55 (.t 56)] [6,56]) (.cond (.T 55) [] (.g [.m 57 (.t 0),.f 58 4 (.t 3),.l 59 0 (.t 58),
 .o 60 (.indexAddr 11) [.T 59,.i 0],.o 61 (.load true 11 false) [.T 60],.c 62 65 [.t 57,.T 61]] [0,3,57,58,62]) [0,3]
 .skip))))))))))))))))) }
def YT:aD:={ fV:=47,mode:=.pure,aF:=1,aP:=0,dM:=[],results:=[.tmp 2 false],body:=
 (.seq (.g [.m 2 (.b false)] [2]) (.seq (.g [.m 3 (.t 0),.o 4 (.aR .geq) [.t 3,.const (.int .u8 97)],
 .m 5 (.t 4),.y 6 .move [.t 0] 5,.y 7 (.aR .leq) [.t 6,.const (.int .u8 122)] 5,.o 8 .pick [.t 5,.t 7,.b false],.m 9 (.t 8),
 .z 10 .move [.t 0] 9,.z 11 (.aR .geq) [.t 10,.const (.int .u8 65)] 9,.z 12 .move [.t 11] 9,.y 13 .move [.t 0] 12,
 .y 14 (.aR .leq) [.t 13,.const (.int .u8 90)] 12,.z 15 .pick [.t 12,.t 14,.b false] 9,.o 16 .pick [.t 9,.b true,.t 15],
 .m 2 (.t 16)] [0,3,4,5,6,7,8,9,10,11,12,13,14,15,16]) .ret)) }
def QI:bQ:=
 (.seq (.seq (.g [.m 8 (.t 1),.m 9 (.t 7),.o 10 (.aR .add) [.t 8,.t 9],.m 11 (.t 0),.o 12 (.len .str) [.t 11],
 .o 13 (.aR .lss) [.t 10,.t 12],.m 14 (.t 13),.y 15 .move [.t 0] 14,.y 16 .move [.t 1] 14,.y 17 .move [.t 7] 14,.y 18 (.aR .add) [.t 16,.t 17] 14,
 .y 19 .index [.t 15,.t 18] 14,.y 20 (.call 51) [.t 19] 14,.y 21 .move [.t 20] 14,.z 22 .move [.t 2] 21,.z 23 (.un .not) [.t 22] 21,
 .z 24 .move [.t 23] 21,.y 25 .move [.t 0] 24,.y 26 .move [.t 1] 24,.y 27 .move [.t 7] 24,.y 28 (.aR .add) [.t 26,.t 27] 24,
 .y 29 .index [.t 25,.t 28] 24,.y 30 (.call 47) [.t 29] 24,.z 31 .pick [.t 24,.t 30,.b false] 21,
 .y 32 .pick [.t 21,.b true,.t 31] 14,
 .o 33 .pick [.t 14,.t 32,.b false]] [8,9,10,11,12,13,14,15,16,17,18,19,20,21,22,23,24,25,26,27,28,29,30,31,32]) (.cond (.T 33) []
 .skip [0,1,2] (.exit 0))) (.block 1 (.g [.m 34 (.t 7),.o 35 (.aR .add) [.t 34,.i 1],.m 7 (.t 35)] [34,35])))
def s48:aD:={ fV:=48,mode:=.pure,aF:=3,aP:=0,dM:=[],results:=[.tmp 6 false],body:=
 (.seq (.g [.m 6 (.i 0)] [6]) (.seq (.g [.m 7 (.i 0)] []) (.seq (.block 0 (.loop QI))
 (.seq (.g [.m 36 (.t 7),.m 6 (.t 36)] [7,36]) .ret)))) }
def QJ:bQ:=
 (.seq (.seq (.g [.m 6 (.t 4),.m 7 (.t 3),.o 8 (.len .sl) [.T 7],.o 9 (.aR .lss) [.t 6,.t 8]] [6,8]) (.cond (.T 9) [] .skip [0,3,4]
 (.exit 0))) (.seq (.block 1 (.seq (.g [.m 12 (.t 3),.m 13 (.t 4),.o 14 (.indexAddr 1) [.T 12,.t 13],.d 15 (.T 14),
 .m 16 (.t 0),.o 17 (.aR .eql) [.t 15,.t 16]] [13,15,16]) (.cond (.T 17) [0,3,4] (.seq (.g [.m 2 (.b true)] [])
 .ret) [] .skip))) (.g [.m 10 (.t 4),.o 11 (.aR .add) [.t 10,.i 1],.m 4 (.t 11)] [10,11])))
def s49:aD:={ fV:=49,mode:=.pure,aF:=1,aP:=0,dM:=[],results:=[.tmp 2 false],body:=
 (.seq (.g [.m 2 (.b false)] [2]) (.seq (.g [.c 5 66 [],.m 3 (.T 5)] []) (.seq (.seq (.g [
 .m 4 (.i 0)] []) (.block 0 (.loop QJ))) (.seq (.g [.m 2 (.b false)] []) .ret)))) }
def QK:bQ:=
 (.seq (.seq (.g [.m 22 (.t 3),.m 23 (.t 0),.o 24 (.len .str) [.t 23],.o 25 (.aR .lss) [.t 22,.t 24]] [22,23,24]) (.cond (.T 25) []
 .skip [0,3] (.exit 0))) (.seq (.block 1 (.seq (.g [.m 28 (.t 0),.m 29 (.t 3),.o 30 .index [.t 28,.t 29],.c 31 47 [.t 30],
 .o 32 (.un .not) [.t 31],.m 33 (.t 32),.y 34 .move [.t 0] 33,.y 35 .move [.t 3] 33,.y 36 .index [.t 34,.t 35] 33,.y 37 (.call 51) [.t 36] 33,
 .y 38 (.un .not) [.t 37] 33,.o 39 .pick [.t 33,.t 38,.b false]] [28,29,30,31,32,33,34,35,36,37,38]) (.cond (.T 39) [0,3] (.seq (.g [
 .m 2 (.b false)] []) .ret) [] .skip))) (.g [.m 26 (.t 3),.o 27 (.aR .add) [.t 26,.i 1],
 .m 3 (.t 27)] [26,27])))
def YU:aD:={ fV:=50,mode:=.pure,aF:=1,aP:=0,dM:=[],results:=[.tmp 2 false],body:=
 (.seq (.g [.m 2 (.b false)] [2]) (.seq (.seq (.g [.m 4 (.t 0),.o 5 (.len .str) [.t 4],
 .o 6 (.aR .lss) [.t 5,.i 1],.m 7 (.t 6),.z 8 .move [.t 0] 7,.z 9 (.len .str) [.t 8] 7,
 .z 10 (.aR .gtr) [.t 9,.i 8] 7,.o 11 .pick [.t 7,.b true,.t 10],.m 12 (.t 11),.z 13 .move [.t 0] 12,
 .z 14 .index [.t 13,.i 0] 12,.z 15 (.call 47) [.t 14] 12,.z 16 (.un .not) [.t 15] 12,.o 17 .pick [.t 12,.b true,.t 16],
 .m 18 (.t 17),.z 19 .move [.t 0] 18,.z 20 (.call 49) [.t 19] 18,
 .o 21 .pick [.t 18,.b true,.t 20]] [4,5,6,7,8,9,10,11,12,13,14,15,16,17,18,19,20]) (.cond (.T 21) [0] (.seq (.g [
 .m 2 (.b false)] []) .ret) [] .skip)) (.seq (.seq (.g [.m 3 (.i 0)] []) (.block 0 (.loop QK)))
 (.seq (.g [.m 2 (.b true)] []) .ret)))) }
def s51:aD:={ fV:=51,mode:=.pure,aF:=1,aP:=0,dM:=[],results:=[.tmp 2 false],body:=
 (.seq (.g [.m 2 (.b false)] [2]) (.seq (.g [.m 3 (.t 0),.o 4 (.aR .geq) [.t 3,.const (.int .u8 48)],
 .m 5 (.t 4),.y 6 .move [.t 0] 5,.y 7 (.aR .leq) [.t 6,.const (.int .u8 57)] 5,.o 8 .pick [.t 5,.t 7,.b false],
 .m 2 (.t 8)] [0,3,4,5,6,7,8]) .ret)) }
def QL:bQ:=
 (.seq (.seq (.g [.m 7 (.t 5),.m 8 (.t 0),.o 9 (.len .str) [.t 8],.o 10 (.aR .lss) [.t 7,.t 9]] [7,8,9]) (.cond (.T 10) []
 .skip [0,5] (.exit 0))) (.seq (.block 1 (.seq (.g [.m 13 (.t 0),.m 14 (.t 5),.o 15 .index [.t 13,.t 14],
 .o 16 (.aR .sub) [.t 15,.const (.int .u8 48)],.o 17 (.conv .i64) [.t 16],.m 6 (.t 17)] [13,14,15,16,17]) (.seq (.seq (.g [
 .m 18 (.t 4),.m 19 (.t 6),.o 20 (.aR .sub) [.i 9223372036854775807,.t 19],.o 21 (.aR .quo) [.t 20,.i 10],
 .o 22 (.aR .gtr) [.t 18,.t 21]] [18,19,20,21]) (.cond (.T 22) [0,4,5,6] (.seq (.g [.m 2 (.i 0),
 .m 3 (.b false)] []) .ret) [] .skip)) (.g [.m 23 (.t 4),.o 24 (.aR .mul) [.i 10,.t 23],
 .m 25 (.t 6),.o 26 (.aR .add) [.t 24,.t 25],.m 4 (.t 26)] [6,23,24,25,26])))) (.g [.m 11 (.t 5),
 .o 12 (.aR .add) [.t 11,.i 1],.m 5 (.t 12)] [11,12])))
def s52:aD:={ fV:=52,mode:=.pure,aF:=1,aP:=0,dM:=[],results:=[.tmp 2 false,.tmp 3 false],body:=
 (.seq (.g [.m 2 (.i 0),.m 3 (.b false)] [2,3]) (.seq (.g [
 .m 4 (.i 0)] []) (.seq (.seq (.g [.m 5 (.i 0)] []) (.block 0 (.loop QL))) (.seq (.g [
 .m 27 (.t 4),.m 2 (.t 27),.m 3 (.b true)] [4,27]) .ret)))) }
def QM:bQ:=
 (.seq (.seq (.g [.m 10 (.t 6),.m 11 (.t 5),.o 12 (.len .sl) [.T 11],.o 13 (.aR .lss) [.t 10,.t 12]] [10,12]) (.cond (.T 13) []
 .skip [5,6] (.exit 0))) (.seq (.block 1 (.seq (.r [.m 16 (.t 0),.o 17 (.len .str) [.t 16],.m 18 (.t 1),.o 19 (.aR .sub) [.t 17,.t 18],
 .o 20 (.aR .geq) [.t 19,.i 2],.m 21 (.t 20),.y 22 .move [.t 0] 21,.y 23 .move [.t 1] 21,.y 24 .move [.t 1] 21,
 .y 25 (.aR .add) [.t 24,.i 2] 21,.y 26 (.slice true true true false 0) [.t 22,.t 23,.t 25] 21,.y 27 .move [.t 5] 21,.y 28 .move [.t 6] 21,
 .y 29 (.indexAddr 1) [.T 27,.t 28] 21,.y 30 (.load false 1 false) [.T 29] 21,.y 31 (.aR .eql) [.t 26,.t 30] 21,
 .o 32 .pick [.t 21,.t 31,.b false]] (some []) [16,17,18,19,20,21,22,23,24,25,26,27,28,29,30,31]) (.cond (.T 32) [0,1] (.seq (.g [
 .m 33 (.T 5),.m 34 (.t 6),.o 35 (.indexAddr 1) [.T 33,.t 34],.d 36 (.T 35),.m 4 (.t 36)] [6,34,36]) .ret) []
 .skip))) (.g [.m 14 (.t 6),.o 15 (.aR .add) [.t 14,.i 1],.m 6 (.t 15)] [14,15])))
def QN:bQ:=
 (.seq (.seq (.g [.m 37 (.t 8),.m 38 (.t 7),.o 39 (.len .str) [.t 38],.o 40 (.aR .lss) [.t 37,.t 39]] [37,38,39]) (.cond (.T 40) []
 .skip [0,1,7,8] (.exit 2))) (.seq (.block 3 (.seq (.r [.m 43 (.t 0),.m 44 (.t 1),.o 45 .index [.t 43,.t 44],.m 46 (.t 7),
 .m 47 (.t 8),.o 48 .index [.t 46,.t 47],.o 49 (.aR .eql) [.t 45,.t 48]] (some []) [43,44,45,46,47,48]) (.cond (.T 49) [0,1] (.seq (.g [
 .m 50 (.t 7),.m 51 (.t 8),.m 52 (.t 8),.o 53 (.aR .add) [.t 52,.i 1],
 .o 54 (.slice true true true false 0) [.t 50,.t 51,.t 53],.m 4 (.t 54)] [7,8,50,51,52,53,54]) .ret) [] .skip))) (.g [.m 41 (.t 8),
 .o 42 (.aR .add) [.t 41,.i 1],.m 8 (.t 42)] [41,42])))
def s53:aD:={ fV:=53,mode:=.pure,aF:=2,aP:=0,dM:=[],results:=[.tmp 4 false],body:=
 (.seq (.g [.o 4 .move [.const (.str [])]] [4]) (.seq (.g [
 .o 9 (.lit 1 5 [.str []] [0,1,2,3,4]) [.const (.str [60,61]),.const (.str [61,61]),.const (.str [33,61]),.const (.str [38,38]),.const (.str [124,124])],
 .m 5 (.T 9)] []) (.seq (.seq (.g [.m 6 (.i 0)] []) (.block 0 (.loop QM))) (.seq (.g [
 .o 7 .move [.const (.str [123,125,40,41,91,93,59,58,44,46,61,43,45,42,47,37,60,33])]] []) (.seq (.seq (.g [
 .m 8 (.i 0)] []) (.block 2 (.loop QN))) (.seq (.g [.o 4 .move [.const (.str [])]] []) .ret)))))) }
def s54:aD:={ fV:=54,mode:=.l9,aF:=2,aP:=0,dM:=[],results:=[],body:=
 (.seq (.seq (.g [.m 4 (.t 0),.m 5 (.t 1),.c 6 17 [.t 4,.t 5],.m 7 (.t 6),.y 8 .move [.t 0] 7,.y 9 .nilCheck [.t 8] 7,
 .y 10 (.fieldAddr 2) [.T 9] 7,.y 11 (.load false 1 false) [.T 10] 7,.y 12 (.aR .geq) [.t 11,.i 50] 7,
 .o 13 .pick [.t 7,.t 12,.b false]] [4,5,6,7,8,9,10,11,12]) (.cond (.T 13) [1] (.seq (.g [.m 14 (.t 0),
 .c 15 18 [.t 14,.i 4]] [0,14,15]) .ret) [] .skip)) (.seq (.g [.m 16 (.t 0),.m 17 (.t 1),
 .c 18 21 [.t 16,.t 17]] [1,16,17,18]) (.g [.m 19 (.t 0),.o 20 .nilCheck [.t 19],.f 21 2 (.T 20),
 .d 22 (.T 21),.o 23 (.aR .add) [.t 22,.i 1],.o 24 .nilCheck [.t 19],.f 25 2 (.T 24),
 .n (.store 1) [.T 25,.t 23]] [0,19,22,23]))) }
def QO:aD:={ fV:=55,mode:=.l9,aF:=1,aP:=3,dM:=[],results:=[.box 2 0 9 true],body:=
 (.seq (.g [.o 2 (.aH 0 [.i 0,.str [],.str [],.i 0,.U,.U,.U,.i 0,.i 0]) []] []) (.seq (.g [
 .m 5 (.t 0),.c 6 16 [.t 5],.o 3 (.aH 1 [.i 0,.str [],.i 0,.i 0]) [],.n (.ai 1 4) [.t 3,.t 6]] [5,6]) (.seq
 (.g [.f 7 3 (.t 3),.l 8 1 (.t 7),
 .o 9 (.build [.i 0,.str [],.str [],.i 0,.U,.U,.U,.i 0,.i 0] [(7,1)]) [.t 8],
 .o 4 (.aH 2 [.i 0,.str [],.str [],.i 0,.U,.U,.U,.i 0,.i 0]) [],.n (.ai 2 9) [.t 4,.T 9]] [7,8]) (.seq
 (.block 0 (.seq (.seq (.g [.m 14 (.t 0),.c 15 17 [.t 14,.const (.str [118,97,114])],.m 13 (.t 15)] [14,15]) (.cond (.t 13) []
 .skip [13] (.g [.m 16 (.t 0),.c 17 17 [.t 16,.const (.str [108,101,116])],.m 13 (.t 17)] [16,17]))) (.cond (.T 13) [] (.seq
 (.g [.m 18 (.t 0),.o 19 .nilCheck [.t 18],.f 20 1 (.T 19),.d 21 (.T 20),
 .o 22 (.aR .add) [.t 21,.i 1],.o 23 .nilCheck [.t 18],.f 24 1 (.T 23),.n (.store 1) [.T 24,.t 22]] [18,21,22]) (.seq
 (.g [.f 25 0 (.t 4),.n (.ai 2 1) [.t 25,.i 1]] [25]) (.seq (.g [.m 26 (.t 0),
 .c 27 33 [.t 26],.f 28 1 (.t 4),.n (.ai 2 1) [.t 28,.t 27]] [26,27,28]) (.seq (.g [.m 29 (.t 0),
 .c 30 21 [.t 29,.const (.str [58])]] [29,30]) (.seq (.g [.m 31 (.t 0),.c 32 34 [.t 31],.f 33 2 (.t 4),
 .n (.ai 2 2) [.t 33,.t 32]] [31,32,33]) (.seq (.seq (.g [.f 34 1 (.t 3),.l 35 1 (.t 34),
 .o 36 (.aR .eql) [.t 35,.const (.str [108,101,116])]] [3,34,35]) (.cond (.T 36) [] (.seq (.g [.f 37 0 (.t 4),
 .n (.ai 2 1) [.t 37,.i 2]] [37]) (.seq (.g [.m 38 (.t 0),.c 39 21 [.t 38,.const (.str [61])]] [38,39])
 (.g [.m 40 (.t 0),.c 41 67 [.t 40,.i 0],
 .o 42 (.lit 11 1 [.i 0,.i 0,.str [],.str [],.i 0,.U,.i 0,.i 0,.i 0,.i 0,.i 0] [0]) [.T 41],
 .f 43 4 (.t 4),.n (.ai 2 1) [.t 43,.T 42]] [40,43]))) [] .skip)) (.g [.m 44 (.t 0),
 .c 45 21 [.t 44,.const (.str [59])]] [0,44,45]))))))) [3] (.seq (.g [.m 47 (.t 0),.c 48 17 [.t 47,.const (.str [105,102])],
 .m 46 (.t 48)] [47,48]) (.cond (.T 46) [] (.seq (.g [.m 49 (.t 0),.o 50 .nilCheck [.t 49],.f 51 1 (.T 50),
 .d 52 (.T 51),.o 53 (.aR .add) [.t 52,.i 1],.o 54 .nilCheck [.t 49],.f 55 1 (.T 54),
 .n (.store 1) [.T 55,.t 53]] [49,52,53]) (.seq (.g [.f 56 0 (.t 4),.n (.ai 2 1) [.t 56,.i 5]] [56]) (.seq
 (.g [.m 57 (.t 0),.c 58 67 [.t 57,.i 0],
 .o 59 (.lit 11 1 [.i 0,.i 0,.str [],.str [],.i 0,.U,.i 0,.i 0,.i 0,.i 0,.i 0] [0]) [.T 58],
 .f 60 4 (.t 4),.n (.ai 2 1) [.t 60,.T 59]] [57,60]) (.seq (.g [.m 61 (.t 0),.c 62 35 [.t 61],
 .f 63 5 (.t 4),.n (.ai 2 1) [.t 63,.T 62]] [61,63]) (.seq (.g [.m 64 (.t 0),
 .c 65 17 [.t 64,.const (.str [101,108,115,101])]] [64]) (.cond (.T 65) [] (.seq (.g [.m 66 (.t 0),.o 67 .nilCheck [.t 66],
 .f 68 1 (.T 67),.d 69 (.T 68),.o 70 (.aR .add) [.t 69,.i 1],.o 71 .nilCheck [.t 66],
 .f 72 1 (.T 71),.n (.store 1) [.T 72,.t 70]] [66,69,70]) (.g [.m 73 (.t 0),.c 74 35 [.t 73],
 .f 75 6 (.t 4),.n (.ai 2 1) [.t 75,.T 74]] [0,73,75])) [0] .skip)))))) [] (.seq (.g [.m 77 (.t 0),
 .c 78 17 [.t 77,.const (.str [119,104,105,108,101])],.m 76 (.t 78)] [77,78]) (.cond (.T 76) [] (.seq (.g [.m 79 (.t 0),
 .o 80 .nilCheck [.t 79],.f 81 1 (.T 80),.d 82 (.T 81),.o 83 (.aR .add) [.t 82,.i 1],
 .o 84 .nilCheck [.t 79],.f 85 1 (.T 84),.n (.store 1) [.T 85,.t 83]] [79,82,83]) (.seq (.g [.f 86 0 (.t 4),
 .n (.ai 2 1) [.t 86,.i 6]] [86]) (.seq (.g [.m 87 (.t 0),.c 88 67 [.t 87,.i 0],
 .o 89 (.lit 11 1 [.i 0,.i 0,.str [],.str [],.i 0,.U,.i 0,.i 0,.i 0,.i 0,.i 0] [0]) [.T 88],
 .f 90 4 (.t 4),.n (.ai 2 1) [.t 90,.T 89]] [87,90]) (.g [.m 91 (.t 0),.c 92 35 [.t 91],
 .f 93 5 (.t 4),.n (.ai 2 1) [.t 93,.T 92]] [0,91,93])))) [] (.seq (.g [.m 95 (.t 0),
 .c 96 17 [.t 95,.const (.str [114,101,116,117,114,110])],.m 94 (.t 96)] [95,96]) (.cond (.T 94) [] (.seq (.g [.m 97 (.t 0),
 .o 98 .nilCheck [.t 97],.f 99 1 (.T 98),.d 100 (.T 99),.o 101 (.aR .add) [.t 100,.i 1],
 .o 102 .nilCheck [.t 97],.f 103 1 (.T 102),.n (.store 1) [.T 103,.t 101]] [97,100,101]) (.seq (.g [.f 104 0 (.t 4),
 .n (.ai 2 1) [.t 104,.i 7]] [104]) (.seq (.seq (.g [.m 105 (.t 0),.c 106 17 [.t 105,.const (.str [59])],
 .o 107 (.un .not) [.t 106]] [105,106]) (.cond (.T 107) [] (.g [.m 108 (.t 0),.c 109 67 [.t 108,.i 0],
 .o 110 (.lit 11 1 [.i 0,.i 0,.str [],.str [],.i 0,.U,.i 0,.i 0,.i 0,.i 0,.i 0] [0]) [.T 109],
 .f 111 4 (.t 4),.n (.ai 2 1) [.t 111,.T 110]] [108,111]) [] .skip)) (.g [.m 112 (.t 0),
 .c 113 21 [.t 112,.const (.str [59])]] [0,112,113])))) [] (.seq (.g [.m 115 (.t 0),
 .c 116 17 [.t 115,.const (.str [112,114,105,110,116])],.m 114 (.t 116)] [115,116]) (.cond (.T 114) [] (.seq (.g [
 .m 117 (.t 0),.o 118 .nilCheck [.t 117],.f 119 1 (.T 118),.d 120 (.T 119),
 .o 121 (.aR .add) [.t 120,.i 1],.o 122 .nilCheck [.t 117],.f 123 1 (.T 122),
 .n (.store 1) [.T 123,.t 121]] [117,120,121]) (.seq (.g [.f 124 0 (.t 4),.n (.ai 2 1) [.t 124,.i 8]] [124])
 (.seq (.g [.m 125 (.t 0),.c 126 67 [.t 125,.i 0],
 .o 127 (.lit 11 1 [.i 0,.i 0,.str [],.str [],.i 0,.U,.i 0,.i 0,.i 0,.i 0,.i 0] [0]) [.T 126],
 .f 128 4 (.t 4),.n (.ai 2 1) [.t 128,.T 127]] [125,128]) (.g [.m 129 (.t 0),
 .c 130 21 [.t 129,.const (.str [59])]] [0,129,130])))) [] (.seq (.g [.m 10 (.t 0),.o 11 (.aE 2 true 9 false) [.t 4],
 .c 12 68 [.t 10,.T 11],.n (.ai 0 9) [.t 2,.T 12]] [0,4,10]) .ret)))))))))))) (.seq (.g [.o 131 (.aE 2 true 9 false) [.t 4],
 .n (.ai 0 9) [.t 2,.T 131]] [4]) .ret))))) }
def s56:aD:={ fV:=56,mode:=.l9,aF:=2,aP:=0,dM:=[],results:=[],body:=
 (.seq (.g [.m 4 (.t 0),.m 5 (.t 1),.c 6 21 [.t 4,.t 5]] [1,4,5,6]) (.g [.m 7 (.t 0),.o 8 .nilCheck [.t 7],
 .f 9 2 (.T 8),.d 10 (.T 9),.o 11 (.aR .sub) [.t 10,.i 1],.o 12 .nilCheck [.t 7],
 .f 13 2 (.T 12),.n (.store 1) [.T 13,.t 11]] [0,7,10,11])) }
def s57:aD:={ fV:=57,mode:=.pure,aF:=2,aP:=0,dM:=[],results:=[.tmp 4 false],body:=
 (.seq (.g [.m 4 (.b false)] [4]) (.seq (.g [.m 5 (.T 0),.m 6 (.t 1),.c 7 69 [.T 5,.t 6],
 .o 8 (.aR .geq) [.t 7,.i 0],.m 4 (.t 8)] [1,6,7,8]) .ret)) }
def s58:aD:={ fV:=58,mode:=.l9,aF:=3,aP:=3,dM:=[],results:=[.box 6 1 3 true],body:=
 (.seq (.g [.o 4 (.gq 0 2) [.t 1],.o 6 (.aH 1 [.i 0,.i 0,.i 0]) []] [1]) (.seq (.r [.m 10 (.t 0),
 .o 11 .nilCheck [.t 10],.f 12 0 (.T 11),.d 13 (.T 12),.o 14 (.aE 0 true 2 false) [.t 4],
 .c 15 70 [.T 13,.t 14],.m 9 (.T 15),.o 16 (.extract 0) [.t 9],.o 17 (.extract 1) [.t 9],
 .o 7 (.aH 2 [.i 0,.i 0,.i 0]) [],.n (.ai 2 3) [.t 7,.t 16],.m 8 (.t 17)] (some []) [4,9,10,14,16,17]) (.seq (.seq
 (.g [.m 18 (.t 8),.o 19 (.un .not) [.t 18]] [8,18]) (.cond (.T 19) [] (.g [.m 20 (.t 0),.m 21 (.t 2),
 .c 22 41 [.t 20,.t 21]] [0,2,20,21,22]) [0,2] .skip)) (.seq (.g [.o 23 (.aE 2 true 3 false) [.t 7],
 .n (.ai 1 3) [.t 6,.t 23]] [7,23]) .ret)))) }
def kX:aD:={ fV:=59,mode:=.l9,aF:=2,aP:=4,dM:=[],results:=[.box 4 1 9 true],body:=
 (.seq (.g [.o 3 (.gq 0 9) [.T 1],.o 4 (.aH 1 [.i 0,.str [],.str [],.i 0,.U,.U,.U,.i 0,.i 0]) []] [])
 (.seq (.g [.f 8 0 (.t 3),.l 9 0 (.t 8),.f 10 7 (.t 3),.l 11 0 (.t 10),
 .o 12 (.build [.i 0,.str [],.str [],.i 0,.U,.U,.U,.i 0,.i 0] [(0,1),(7,1)]) [.t 9,.t 11],
 .o 5 (.aH 2 [.i 0,.str [],.str [],.i 0,.U,.U,.U,.i 0,.i 0]) [],.n (.ai 2 9) [.t 5,.T 12]] [8,9,10,11])
 (.seq (.r [.c 13 71 [],.m 14 (.t 0),.o 15 (.aE 0 true 9 false) [.t 3],.c 16 72 [.t 14,.T 15],
 .o 6 (.aH 3 [.i 0,.i 0,.i 0]) [],.n (.ai 3 3) [.t 6,.t 13],.m 7 (.t 16)] (some []) [13,14,16]) (.seq (.seq (.g [
 .m 17 (.t 7),.m 18 (.t 17),.y 19 (.fieldAddr 0) [.t 3] 18,.y 20 (.aE 0 false 1 false) [.t 19] 18,
 .y 21 (.aR .eql) [.t 20,.i 1] 18,.y 22 .move [.t 21] 18,.z 23 (.fieldAddr 0) [.t 3] 22,.z 24 (.aE 0 false 1 false) [.t 23] 22,
 .z 25 (.aR .eql) [.t 24,.i 2] 22,.y 26 .pick [.t 22,.b true,.t 25] 18,
 .o 27 .pick [.t 18,.t 26,.b false]] [17,18,19,20,21,22,23,24,25,26]) (.cond (.T 27) [7] (.seq (.r [.m 29 (.t 0),
 .o 30 .nilCheck [.t 29],.f 31 4 (.T 30),.d 32 (.T 31),.f 33 2 (.t 3),
 .o 34 (.aE 0 true 2 false) [.t 33],.c 35 70 [.T 32,.t 34],.m 28 (.T 35),.o 36 (.extract 0) [.t 28],.o 37 (.extract 1) [.t 28],
 .n (.ai 3 3) [.t 6,.t 36],.m 7 (.t 37)] (some []) [28,29,33,34,36,37]) (.g [.f 38 2 (.t 3),
 .o 39 (.aE 0 true 2 false) [.t 38],.f 40 2 (.t 5),.n (.ai 2 2) [.t 40,.t 39]] [38,39,40])) [] .skip)) (.seq (.seq (.g [
 .m 41 (.t 7),.o 42 (.un .not) [.t 41]] [7,41]) (.cond (.T 42) [5,6] (.seq (.g [.m 43 (.t 0),.f 44 7 (.t 3),
 .l 45 0 (.t 44),.c 46 73 [.t 43,.t 45]] [0,3,43,44,45,46]) (.seq (.g [
 .o 47 (.build [.i 0,.str [],.str [],.i 0,.U,.U,.U,.i 0,.i 0] []) [],.n (.ai 1 9) [.t 4,.T 47]] []) .ret)) []
 .skip)) (.seq (.seq (.g [.f 48 0 (.t 3),.l 49 0 (.t 48),
 .o 50 (.aR .eql) [.t 49,.i 9]] [48,49]) (.cond (.T 50) [] (.g [.m 51 (.t 0),.f 52 4 (.t 3),
 .l 53 0 (.t 52),.o 54 (.indexAddr 11) [.T 53,.i 0],.o 55 (.load true 11 false) [.T 54],
 .c 56 74 [.t 51,.T 55],
 .o 57 (.lit 11 1 [.i 0,.i 0,.str [],.str [],.i 0,.U,.i 0,.i 0,.i 0,.i 0,.i 0] [0]) [.T 56],
 .f 58 4 (.t 5),.n (.ai 2 1) [.t 58,.T 57]] [51,52,58]) [] (.g [.m 59 (.t 0),.f 60 4 (.t 3),
 .l 61 0 (.t 60),.c 62 75 [.t 59,.T 61],.f 63 4 (.t 5),.n (.ai 2 1) [.t 63,.T 62]] [59,60,63]))) (.seq
 (.seq (.g [.m 64 (.t 0),.c 65 25 [.t 64]] [64]) (.cond (.T 65) [0,3,5,6] (.seq (.g [
 .o 66 (.build [.i 0,.str [],.str [],.i 0,.U,.U,.U,.i 0,.i 0] []) [],.n (.ai 1 9) [.t 4,.T 66]] []) .ret) []
 .skip)) (.seq (.seq (.g [.f 67 0 (.t 3),.l 68 0 (.t 67),.o 69 (.aR .eql) [.t 68,.i 1],
 .m 70 (.t 69),.z 71 (.fieldAddr 0) [.t 3] 70,.z 72 (.aE 0 false 1 false) [.t 71] 70,.z 73 (.aR .eql) [.t 72,.i 2] 70,
 .o 74 .pick [.t 70,.b true,.t 73],.m 75 (.t 74),.z 76 (.fieldAddr 0) [.t 3] 75,.z 77 (.aE 0 false 1 false) [.t 76] 75,
 .z 78 (.aR .eql) [.t 77,.i 3] 75,.o 79 .pick [.t 75,.b true,.t 78]] [67,68,69,70,71,72,73,74,75,76,77,78])
 (.cond (.T 79) [] (.g [.f 80 1 (.t 3),.l 81 0 (.t 80),.f 82 1 (.t 5),
 .n (.ai 2 1) [.t 82,.t 81]] [80,81,82]) [] .skip)) (.seq (.g [.m 84 (.t 0),.o 85 (.aE 2 true 9 false) [.t 5],
 .o 86 (.aE 3 true 3 false) [.t 6],.c 87 76 [.t 84,.T 85,.t 86],.m 83 (.T 87),.o 88 (.extract 0) [.t 83],.o 89 (.extract 1) [.T 83],
 .f 90 8 (.t 5),.n (.ai 2 1) [.t 90,.t 88],.m 7 (.t 89)] [6,84,86,88,89,90]) (.seq (.seq (.g [.m 91 (.t 7),
 .o 92 (.un .not) [.t 91]] [7,91]) (.cond (.T 92) [5] (.seq (.g [.m 93 (.t 0),.f 94 7 (.t 3),
 .l 95 0 (.t 94),.c 96 73 [.t 93,.t 95]] [0,3,93,94,95,96]) (.seq (.g [
 .o 97 (.build [.i 0,.str [],.str [],.i 0,.U,.U,.U,.i 0,.i 0] []) [],.n (.ai 1 9) [.t 4,.T 97]] []) .ret)) []
 .skip)) (.seq (.seq (.g [.f 98 0 (.t 3),.l 99 0 (.t 98),.o 100 (.aR .eql) [.t 99,.i 5],
 .m 101 (.t 100),.z 102 (.fieldAddr 0) [.t 3] 101,.z 103 (.aE 0 false 1 false) [.t 102] 101,.z 104 (.aR .eql) [.t 103,.i 6] 101,
 .o 105 .pick [.t 101,.b true,.t 104]] [98,99,100,101,102,103,104]) (.cond (.T 105) [] (.g [.m 106 (.t 0),
 .f 107 5 (.t 3),.l 108 0 (.t 107),.c 109 43 [.t 106,.T 108],.f 110 5 (.t 5),
 .n (.ai 2 1) [.t 110,.T 109]] [106,107,110]) [] .skip)) (.seq (.seq (.g [.f 111 0 (.t 3),
 .l 112 0 (.t 111),.o 113 (.aR .eql) [.t 112,.i 5]] [111,112]) (.cond (.T 113) [] (.g [.m 114 (.t 0),
 .f 115 6 (.t 3),.l 116 0 (.t 115),.c 117 43 [.t 114,.T 116],.f 118 6 (.t 5),
 .n (.ai 2 1) [.t 118,.T 117]] [0,3,114,115,118]) [0,3] .skip)) (.seq (.g [.o 119 (.aE 2 true 9 false) [.t 5],
 .n (.ai 1 9) [.t 4,.T 119]] [5]) .ret))))))))))))) }
def QS:bQ:=
 (.seq (.g [.o 12 (.aR .lss) [.t 11,.t 10]] []) (.seq (.cond (.T 12) [] .skip [9,10,11] (.exit 0)) (.seq (.block 1 (.seq (.g [
 .o 13 (.indexAddr 11) [.t 9,.t 11],.o 14 (.load true 11 false) [.T 13],
 .o 7 (.aH 1 [.i 0,.i 0,.str [],.str [],.i 0,.U,.i 0,.i 0,.i 0,.i 0,.i 0]) [],
 .n (.ai 1 11) [.t 7,.T 14]] []) (.g [.m 15 (.t 0),.o 16 (.aE 1 true 11 false) [.t 7],.m 17 (.t 2),
 .c 18 60 [.t 15,.T 16,.T 17]] [7,15,18]))) (.g [.o 19 (.aR .add) [.t 11,.i 1],.m 11 (.t 19)] [19]))))
def s60:aD:={ fV:=60,mode:=.l9,aF:=3,aP:=2,dM:=[],results:=[],body:=
 (.seq (.g [.o 4 (.gq 0 11) [.T 1]] []) (.seq (.seq (.g [.f 8 5 (.t 4),.l 9 0 (.t 8),
 .o 10 (.len .sl) [.t 9],.m 11 (.i 0)] [8]) (.block 0 (.loop QS))) (.seq (.g [.f 20 0 (.t 4),
 .l 21 0 (.t 20),.o 22 (.aR .eql) [.t 21,.i 4],.m 23 (.t 22),.y 24 (.fieldAddr 10) [.t 4] 23,
 .y 25 (.aE 0 false 1 false) [.t 24] 23,.y 26 (.aR .geq) [.t 25,.i 0] 23,.o 27 .pick [.t 23,.t 26,.b false],
 .m 28 (.t 27),.y 29 .move [.T 2] 28,.y 30 (.fieldAddr 10) [.t 4] 28,.y 31 (.aE 0 false 1 false) [.t 30] 28,.y 32 (.indexAddr 1) [.T 29,.t 31] 28,
 .y 33 (.load false 1 false) [.T 32] 28,.y 34 (.un .not) [.t 33] 28,.o 35 .pick [.t 28,.t 34,.b false],.m 36 (.t 35),
 .y 37 .move [.t 0] 36,.y 38 .nilCheck [.t 37] 36,.y 39 (.fieldAddr 0) [.T 38] 36,.y 40 (.fieldAddr 0) [.T 39] 36,.y 41 (.load false 1 false) [.T 40] 36,
 .y 42 (.aR .eql) [.t 41,.i 0] 36,
 .o 43 .pick [.t 36,.t 42,.b false]] [2,20,21,22,23,24,25,26,27,28,29,30,31,32,33,34,35,36,37,38,39,40,41,42]) (.cond (.T 43) [] (.g [
 .m 44 (.t 0),.f 45 6 (.t 4),.l 46 0 (.t 45),
 .o 47 (.build [.i 0,.i 0] [(0,1),(1,1)]) [.i 3,.t 46],.o 48 .nilCheck [.t 44],.f 49 0 (.T 48),
 .n (.store 2) [.T 49,.t 47]] [0,4,44,45,46,47]) [0,4] .skip)))) }
def s61:aD:={ fV:=61,mode:=.Ds,aF:=2,aP:=1,dM:=[],results:=[],body:=
 (.seq (.g [.o 3 (.gq 0 9) [.T 1]] []) (.seq (.g [.m 5 (.t 0),.f 6 4 (.t 3),.l 7 0 (.t 6),
 .o 8 (.indexAddr 11) [.T 7,.i 0],.o 9 (.load true 11 false) [.T 8],.c 10 65 [.t 5,.T 9],.m 4 (.t 10)] [5,6,10]) (.seq
 (.seq (.g [.f 11 8 (.t 3),.l 12 0 (.t 11),.o 13 (.aR .lss) [.t 12,.i 0]] [11,12])
 (.cond (.T 13) [] (.seq (.g [.m 14 (.t 0),.m 15 (.t 4),.f 16 8 (.t 3),.l 17 0 (.t 16),
 .o 18 (.aR .sub) [.const (.i (-1)),.t 17],
 .o 19 (.build [.i 0,.i 0,.i 0,.i 0,.i 0,.U] [(0,1),(1,1),(4,1)]) [.i 20,.t 15,.t 18],
 .c 20 30 [.t 14,.T 19]] [0,3,4,14,15,16,17,18,20]) .ret) [] .skip)) (.g [.m 21 (.t 0),.f 22 8 (.t 3),
 .l 23 0 (.t 22),.m 24 (.t 4),
 .o 25 (.build [.i 0,.i 0,.i 0,.i 0,.i 0,.U] [(0,1),(1,1),(2,1)]) [.i 3,.t 23,.t 24],
 .c 26 30 [.t 21,.T 25]] [0,3,4,21,22,23,24,26])))) }
def s62:aD:={ fV:=62,mode:=.Ds,aF:=2,aP:=1,dM:=[],results:=[],body:=
 (.seq (.g [.o 3 (.gq 0 9) [.T 1]] []) (.seq (.g [.m 6 (.t 0),.f 7 4 (.t 3),.l 8 0 (.t 7),
 .o 9 (.indexAddr 11) [.T 8,.i 0],.f 10 5 (.T 9),.d 11 (.T 10),.c 12 77 [.t 6,.T 11],
 .m 4 (.T 12)] [6,7]) (.seq (.g [.m 13 (.t 0),.f 14 4 (.t 3),.l 15 0 (.t 14),
 .o 16 (.indexAddr 11) [.T 15,.i 1],.o 17 (.load true 11 false) [.T 16],.c 18 65 [.t 13,.T 17],.m 5 (.t 18)] [13,14,18])
 (.seq (.seq (.g [.f 19 4 (.t 3),.l 20 0 (.t 19),.o 21 (.indexAddr 11) [.T 20,.i 0],
 .f 22 0 (.T 21),.d 23 (.T 22),.o 24 (.aR .eql) [.t 23,.i 5]] [19,23]) (.cond (.T 24) [] (.seq
 (.r [.m 25 (.t 0),.m 26 (.T 4),.o 27 (.indexAddr 1) [.T 26,.i 0],.d 28 (.T 27),.m 29 (.t 5),
 .f 30 4 (.t 3),.l 31 0 (.t 30),.o 32 (.indexAddr 11) [.T 31,.i 0],.f 33 10 (.T 32),
 .d 34 (.T 33),
 .o 35 (.build [.i 0,.i 0,.i 0,.i 0,.i 0,.U] [(0,1),(1,1),(2,1),(3,1)]) [.i 7,.t 28,.t 29,.t 34],
 .c 36 30 [.t 25,.T 35]] (some []) [0,3,5,25,28,29,30,34,36]) .ret) [3] .skip)) (.r [.m 37 (.t 0),.m 38 (.t 4),
 .o 39 (.indexAddr 1) [.T 38,.i 0],.d 40 (.T 39),.m 41 (.t 4),.o 42 (.indexAddr 1) [.T 41,.i 1],
 .d 43 (.T 42),.m 44 (.t 5),
 .o 45 (.build [.i 0,.i 0,.i 0,.i 0,.i 0,.U] [(0,1),(1,1),(2,1),(3,1)]) [.i 9,.t 40,.t 43,.t 44],
 .c 46 30 [.t 37,.T 45]] (some []) [0,4,5,37,40,43,44,46]))))) }
def s63:aD:={ fV:=63,mode:=.Ds,aF:=2,aP:=1,dM:=[],results:=[],body:=
 (.seq (.g [.o 3 (.gq 0 9) [.T 1]] []) (.seq (.g [.m 6 (.t 0),.f 7 4 (.t 3),.l 8 0 (.t 7),
 .o 9 (.indexAddr 11) [.T 8,.i 0],.o 10 (.load true 11 false) [.T 9],.c 11 78 [.t 6,.T 10],.m 4 (.t 11)] [6,7,11]) (.seq
 (.g [.m 12 (.t 0),.f 13 5 (.t 3),.l 14 0 (.t 13),.c 15 27 [.t 12,.T 14]] [12,13,15]) (.seq
 (.g [.m 16 (.t 0),.o 17 (.build [.i 0,.i 0,.i 0,.i 0,.i 0,.U] [(0,1)]) [.i 16],
 .c 18 30 [.t 16,.T 17],.m 5 (.t 18)] [16,18]) (.seq (.r [.m 19 (.t 0),.o 20 .nilCheck [.t 19],.f 21 5 (.T 20),
 .f 22 6 (.T 21),.d 23 (.T 22),.m 24 (.t 4),.m 25 (.t 0),.c 26 79 [.t 25],
 .o 27 (.indexAddr 6) [.T 23,.t 24],.f 28 3 (.T 27),.n (.store 1) [.T 28,.t 26]] (some [(4,7)]) [4,19,24,25,26]) (.seq (.g [
 .m 29 (.t 0),.f 30 6 (.t 3),.l 31 0 (.t 30),.c 32 27 [.t 29,.T 31]] [3,29,30,32]) (.r [
 .m 33 (.t 0),.o 34 .nilCheck [.t 33],.f 35 5 (.T 34),.f 36 6 (.T 35),.d 37 (.T 36),
 .m 38 (.t 5),.m 39 (.t 0),.c 40 79 [.t 39],.o 41 (.indexAddr 6) [.T 37,.t 38],.f 42 4 (.T 41),
 .n (.store 1) [.T 42,.t 40]] (some [(4,7)]) [0,5,33,38,39,40]))))))) }
def s64:aD:={ fV:=64,mode:=.Ds,aF:=2,aP:=1,dM:=[],results:=[],body:=
 (.seq (.g [.o 3 (.gq 0 9) [.T 1]] []) (.seq (.g [.m 6 (.t 0),.c 7 79 [.t 6],.m 4 (.t 7)] [6,7]) (.seq (.g [
 .m 8 (.t 0),.f 9 4 (.t 3),.l 10 0 (.t 9),.o 11 (.indexAddr 11) [.T 10,.i 0],
 .o 12 (.load true 11 false) [.T 11],.c 13 78 [.t 8,.T 12],.m 5 (.t 13)] [8,9,13]) (.seq (.g [.m 14 (.t 0),
 .f 15 5 (.t 3),.l 16 0 (.t 15),.c 17 27 [.t 14,.T 16]] [3,14,15,17]) (.seq (.g [.m 18 (.t 0),
 .m 19 (.t 4),.o 20 (.build [.i 0,.i 0,.i 0,.i 0,.i 0,.U] [(0,1),(4,1)]) [.i 16,.t 19],
 .c 21 30 [.t 18,.T 20]] [4,18,19,21]) (.r [.m 22 (.t 0),.o 23 .nilCheck [.t 22],.f 24 5 (.T 23),
 .f 25 6 (.T 24),.d 26 (.T 25),.m 27 (.t 5),.m 28 (.t 0),.c 29 79 [.t 28],
 .o 30 (.indexAddr 6) [.T 26,.t 27],.f 31 3 (.T 30),.n (.store 1) [.T 31,.t 29]] (some [(4,7)]) [0,5,22,27,28,29])))))) }
def W3:aD:={ fV:=65,mode:=.Ds,aF:=2,aP:=2,dM:=[],results:=[.tmp 4 false],body:=
 (.seq (.g [.o 3 (.gq 0 11) [.T 1],.m 4 (.i 0)] [4]) (.seq (.seq (.g [.f 8 0 (.t 3),
 .l 9 0 (.t 8),.o 10 (.aR .eql) [.t 9,.i 4],.m 11 (.t 10),.y 12 (.fieldAddr 10) [.t 3] 11,
 .y 13 (.aE 0 false 1 false) [.t 12] 11,.y 14 (.aR .geq) [.t 13,.i 0] 11,
 .o 15 .pick [.t 11,.t 14,.b false]] [8,9,10,11,12,13,14]) (.cond (.T 15) [0] (.seq (.g [.f 16 10 (.t 3),
 .l 17 0 (.t 16),.m 4 (.t 17)] [3,16,17]) .ret) [] .skip)) (.seq (.g [.m 18 (.t 0),.f 19 5 (.t 3),
 .l 20 0 (.t 19),.c 21 77 [.t 18,.T 20],.m 5 (.T 21)] [18,19]) (.seq (.seq (.g [.f 22 0 (.t 3),
 .l 23 0 (.t 22),.o 24 (.aR .eql) [.t 23,.i 7]] [22,23]) (.cond (.T 24) [] (.seq (.g [.m 25 (.t 0),
 .o 26 (.aE 0 true 11 false) [.t 3],.m 27 (.T 5),.c 28 80 [.t 25,.T 26,.T 27],.m 4 (.t 28)] [0,3,25,28]) .ret) [] .skip)) (.seq
 (.g [.m 29 (.t 0),.f 30 7 (.t 3),.o 31 (.aE 0 true 3 false) [.t 30],.c 32 29 [.t 29,.t 31],
 .m 6 (.t 32)] [29,30,31,32]) (.seq (.g [.m 33 (.t 0),.o 34 (.aE 0 true 11 false) [.t 3],.m 35 (.T 5),
 .c 36 81 [.t 33,.T 34,.T 35],.o 7 (.aH 1 [.i 0,.i 0,.i 0,.i 0,.i 0,.U]) [],
 .n (.ai 1 6) [.t 7,.T 36]] [3,33]) (.seq (.g [.m 37 (.t 6),.f 38 1 (.t 7),.n (.ai 1 1) [.t 38,.t 37]] [37,38])
 (.seq (.g [.m 39 (.t 0),.o 40 (.aE 1 true 6 false) [.t 7],.c 41 30 [.t 39,.T 40]] [0,7,39,41]) (.seq (.g [
 .m 42 (.t 6),.m 4 (.t 42)] [6,42]) .ret))))))))) }
def s66:aD:={ fV:=66,mode:=.pure,aF:=0,aP:=0,dM:=[],results:=[.tmp 0 true],body:=
 (.seq (.g [.o 0 .move [.const .U]] [0]) (.seq (.g [
 .o 1 (.lit 1 18 [.str []] [0,1,2,3,4,5,6,7,8,9,10,11,12,13,14,15,16,17]) [.const (.str [114,101,99,111,114,100]),.const (.str [103,108,111,98,97,108]),.const (.str [102,117,110,99]),.const (.str [118,97,114]),.const (.str [108,101,116]),.const (.str [105,102]),.const (.str [101,108,115,101]),.const (.str [119,104,105,108,101]),.const (.str [114,101,116,117,114,110]),.const (.str [112,114,105,110,116]),.const (.str [110,117,108,108]),.const (.str [110,101,119]),.const (.str [108,101,110]),.const (.str [114,101,97,100]),.const (.str [116,114,117,101]),.const (.str [102,97,108,115,101]),.const (.str [105,110,116]),.const (.str [98,111,111,108])],
 .m 0 (.T 1)] []) .ret)) }
def QT:bQ:=
 (.seq (.seq (.g [.m 16 (.t 0),.c 17 15 [.t 16],.m 18 (.t 17),.y 19 .move [.t 1] 18,.y 20 .move [.t 0] 18,
 .y 21 (.call 16) [.t 20] 18,.y 22 (.call 83) [.t 19,.t 21] 18,.y 23 (.aR .neq) [.t 22,.i 0] 18,
 .o 24 .pick [.t 18,.t 23,.b false]] [16,17,18,19,20,21,22,23]) (.cond (.T 24) [] .skip [0,1] (.exit 0))) (.block 1 (.seq (.g [
 .m 25 (.t 0),.c 26 16 [.t 25],.o 6 (.aH 2 [.i 0,.str [],.i 0,.i 0]) [],.n (.ai 2 4) [.t 6,.t 26]] [25,26])
 (.seq (.g [.m 27 (.t 0),.o 28 .nilCheck [.t 27],.f 29 1 (.T 28),.d 30 (.T 29),
 .o 31 (.aR .add) [.t 30,.i 1],.o 32 .nilCheck [.t 27],.f 33 1 (.T 32),.n (.store 1) [.T 33,.t 31]] [27,30,31]) (.seq
 (.g [.m 34 (.t 0),.m 35 (.t 1),.o 36 (.aR .add) [.t 35,.i 1],.c 37 67 [.t 34,.t 36],
 .o 7 (.aH 3 [.i 0,.i 0,.str [],.str [],.i 0,.U,.i 0,.i 0,.i 0,.i 0,.i 0]) [],
 .n (.ai 3 11) [.t 7,.T 37]] [34,35,36]) (.r [.m 38 (.t 1),.o 39 (.aE 2 true 4 false) [.t 6],.c 40 83 [.t 38,.t 39],
 .o 41 (.aE 1 true 11 false) [.t 5],.o 42 (.aE 3 true 11 false) [.t 7],
 .o 43 (.lit 11 2 [.i 0,.i 0,.str [],.str [],.i 0,.U,.i 0,.i 0,.i 0,.i 0,.i 0] [0,1]) [.T 41,.T 42],
 .f 44 3 (.t 6),.l 45 2 (.t 44),
 .o 46 (.build [.i 0,.i 0,.str [],.str [],.i 0,.U,.i 0,.i 0,.i 0,.i 0,.i 0] [(0,1),(5,1),(6,1)]) [.t 40,.T 43,.t 45],
 .n (.ai 1 11) [.t 5,.T 46]] (some []) [6,7,38,39,40,44,45]))))))
def s67:aD:={ fV:=67,mode:=.l9,aF:=2,aP:=4,dM:=[],results:=[.box 4 0 11 true],body:=
 (.seq (.g [
 .o 4 (.aH 0 [.i 0,.i 0,.str [],.str [],.i 0,.U,.i 0,.i 0,.i 0,.i 0,.i 0]) []] []) (.seq
 (.seq (.g [.m 8 (.t 1),.o 9 (.aR .eql) [.t 8,.i 5]] [8]) (.cond (.T 9) [1] (.seq (.g [.m 10 (.t 0),
 .c 11 82 [.t 10],.n (.ai 0 11) [.t 4,.T 11]] [0,10]) .ret) [] .skip)) (.seq (.g [.m 12 (.t 0),.m 13 (.t 1),
 .o 14 (.aR .add) [.t 13,.i 1],.c 15 67 [.t 12,.t 14],
 .o 5 (.aH 1 [.i 0,.i 0,.str [],.str [],.i 0,.U,.i 0,.i 0,.i 0,.i 0,.i 0]) [],
 .n (.ai 1 11) [.t 5,.T 15]] [12,13,14]) (.seq (.block 0 (.loop QT)) (.seq (.g [.o 47 (.aE 1 true 11 false) [.t 5],
 .n (.ai 0 11) [.t 4,.T 47]] [5]) .ret))))) }
def W4:aD:={ fV:=68,mode:=.l9,aF:=2,aP:=4,dM:=[],results:=[.box 4 1 9 true],body:=
 (.seq (.g [.o 3 (.gq 0 9) [.T 1],.o 4 (.aH 1 [.i 0,.str [],.str [],.i 0,.U,.U,.U,.i 0,.i 0]) []] [])
 (.seq (.g [.m 7 (.t 0),.c 8 67 [.t 7,.i 0],
 .o 5 (.aH 2 [.i 0,.i 0,.str [],.str [],.i 0,.U,.i 0,.i 0,.i 0,.i 0,.i 0]) [],
 .n (.ai 2 11) [.t 5,.T 8]] [7]) (.seq (.seq (.g [.m 9 (.t 0),.c 10 17 [.t 9,.const (.str [61])],
 .o 11 (.un .not) [.t 10]] [9,10]) (.cond (.T 11) [] (.seq (.g [.f 12 0 (.t 3),
 .n (.ai 0 1) [.t 12,.i 9]] [12]) (.seq (.g [.o 13 (.aE 2 true 11 false) [.t 5],
 .o 14 (.lit 11 1 [.i 0,.i 0,.str [],.str [],.i 0,.U,.i 0,.i 0,.i 0,.i 0,.i 0] [0]) [.T 13],
 .f 15 4 (.t 3),.n (.ai 0 1) [.t 15,.T 14]] [15]) (.seq (.seq (.g [.m 16 (.t 0),
 .c 17 17 [.t 16,.const (.str [59])],.m 18 (.t 17),.y 19 (.fieldAddr 0) [.t 5] 18,.y 20 (.aE 2 false 1 false) [.t 19] 18,
 .y 21 (.aR .neq) [.t 20,.i 7] 18,.o 22 .pick [.t 18,.t 21,.b false]] [5,16,17,18,19,20,21]) (.cond (.T 22) [] (.g [
 .m 23 (.t 0),.c 24 18 [.t 23,.i 2]] [23,24]) [] .skip)) (.seq (.g [.m 25 (.t 0),
 .c 26 21 [.t 25,.const (.str [59])]] [0,25,26]) (.seq (.g [.o 27 (.aE 0 true 9 false) [.t 3],.n (.ai 1 9) [.t 4,.T 27]] [3])
 .ret))))) [] .skip)) (.seq (.seq (.g [.f 28 0 (.t 5),.l 29 2 (.t 28),
 .o 30 (.aR .neq) [.t 29,.i 4],.m 31 (.t 30),.y 32 (.fieldAddr 0) [.t 5] 31,.y 33 (.aE 2 false 1 false) [.t 32] 31,
 .y 34 (.aR .neq) [.t 33,.i 5] 31,.o 35 .pick [.t 31,.t 34,.b false],.m 36 (.t 35),.y 37 (.fieldAddr 0) [.t 5] 36,
 .y 38 (.aE 2 false 1 false) [.t 37] 36,.y 39 (.aR .neq) [.t 38,.i 6] 36,
 .o 40 .pick [.t 36,.t 39,.b false]] [28,29,30,31,32,33,34,35,36,37,38,39]) (.cond (.T 40) [] (.g [.m 41 (.t 0),
 .c 42 18 [.t 41,.i 2]] [41,42]) [] .skip)) (.seq (.g [.m 43 (.t 0),
 .c 44 21 [.t 43,.const (.str [61])]] [43,44]) (.seq (.g [.m 45 (.t 0),.c 46 67 [.t 45,.i 0],
 .o 6 (.aH 3 [.i 0,.i 0,.str [],.str [],.i 0,.U,.i 0,.i 0,.i 0,.i 0,.i 0]) [],
 .n (.ai 3 11) [.t 6,.T 46]] [45]) (.seq (.g [.m 47 (.t 0),.c 48 21 [.t 47,.const (.str [59])]] [0,47,48]) (.seq (.seq
 (.g [.f 49 0 (.t 5),.l 50 2 (.t 49),.o 51 (.aR .eql) [.t 50,.i 4]] [49,50])
 (.cond (.T 51) [] (.seq (.g [.f 52 0 (.t 3),.n (.ai 0 1) [.t 52,.i 3]] [52]) (.seq (.g [
 .f 53 2 (.t 5),.l 54 2 (.t 53),.f 55 1 (.t 3),.n (.ai 0 1) [.t 55,.t 54]] [5,53,54,55]) (.seq
 (.g [.o 56 (.aE 3 true 11 false) [.t 6],
 .o 57 (.lit 11 1 [.i 0,.i 0,.str [],.str [],.i 0,.U,.i 0,.i 0,.i 0,.i 0,.i 0] [0]) [.T 56],
 .f 58 4 (.t 3),.n (.ai 0 1) [.t 58,.T 57]] [6,58]) (.seq (.g [.o 59 (.aE 0 true 9 false) [.t 3],
 .n (.ai 1 9) [.t 4,.T 59]] [3]) .ret)))) [] .skip)) (.seq (.g [.f 60 0 (.t 3),
 .n (.ai 0 1) [.t 60,.i 4]] [60]) (.seq (.g [.o 61 (.aE 2 true 11 false) [.t 5],.o 62 (.aE 3 true 11 false) [.t 6],
 .o 63 (.lit 11 2 [.i 0,.i 0,.str [],.str [],.i 0,.U,.i 0,.i 0,.i 0,.i 0,.i 0] [0,1]) [.T 61,.T 62],
 .f 64 4 (.t 3),.n (.ai 0 1) [.t 64,.T 63]] [5,6,64]) (.seq (.g [.o 65 (.aE 0 true 9 false) [.t 3],
 .n (.ai 1 9) [.t 4,.T 65]] [3]) .ret))))))))))) }
def Kh:bQ:=
 (.seq (.g [.o 9 (.aR .lss) [.t 8,.t 7]] []) (.seq (.cond (.T 9) [] .skip [0,1,7,8] (.exit 0)) (.seq (.block 1 (.seq (.g [.m 10 (.t 8),
 .m 5 (.t 10)] [10]) (.seq (.g [.m 11 (.t 1),.m 12 (.t 0),.m 13 (.t 5),.o 14 (.indexAddr 1) [.T 12,.t 13],
 .d 15 (.T 14),.o 16 (.aR .eql) [.t 11,.t 15]] [11,13,15]) (.cond (.T 16) [0,1,7,8] (.seq (.g [.m 17 (.t 5),
 .m 4 (.t 17)] [5,17]) .ret) [5] .skip)))) (.g [.o 18 (.aR .add) [.t 8,.i 1],.m 8 (.t 18)] [18]))))
def s69:aD:={ fV:=69,mode:=.pure,aF:=2,aP:=0,dM:=[],results:=[.tmp 4 false],body:=
 (.seq (.g [.m 4 (.i 0)] [4]) (.seq (.seq (.g [.m 6 (.t 0),.o 7 (.len .sl) [.T 6],
 .m 8 (.i 0)] []) (.block 0 (.loop Kh))) (.seq (.g [.o 4 .move [.const (.i (-1))]] []) .ret))) }
def Ki:aD:={ fV:=70,mode:=.pure,aF:=2,aP:=2,dM:=[],results:=[.box 4 1 3 true,.tmp 5 false],body:=
 (.seq (.g [.o 3 (.gq 0 2) [.t 1],.o 4 (.aH 1 [.i 0,.i 0,.i 0]) [],.m 5 (.b false)] [1,5]) (.seq
 (.seq (.g [.f 7 1 (.t 3),.l 8 0 (.t 7),.o 9 (.aR .lss) [.t 8,.i 0],.m 10 (.t 9),
 .z 11 (.fieldAddr 1) [.t 3] 10,.z 12 (.aE 0 false 1 false) [.t 11] 10,.z 13 (.aR .gtr) [.t 12,.i 3] 10,
 .o 14 .pick [.t 10,.b true,.t 13]] [7,8,9,10,11,12,13]) (.cond (.T 14) [0,3] (.seq (.g [
 .o 15 (.build [.i 0,.i 0,.i 0] []) [],.n (.ai 1 3) [.t 4,.t 15],.m 5 (.b false)] [15]) .ret) [] .skip))
 (.seq (.seq (.g [.f 16 0 (.t 3),.l 17 0 (.t 16)] [16]) (.block 0 (.seq (.g [
 .o 19 (.aR .eql) [.t 17,.const (.str [105,110,116])],.m 18 (.t 19)] [19]) (.cond (.T 18) [0,17] (.seq (.g [.f 20 1 (.t 3),
 .l 21 0 (.t 20),.o 22 (.build [.i 0,.i 0,.i 0] [(0,1),(2,1)]) [.i 1,.t 21],
 .n (.ai 1 3) [.t 4,.t 22],.m 5 (.b true)] [3,20,21,22]) .ret) [] (.seq (.g [
 .o 24 (.aR .eql) [.t 17,.const (.str [98,111,111,108])],.m 23 (.t 24)] [17,24]) (.cond (.T 23) [0] (.seq (.g [.f 25 1 (.t 3),
 .l 26 0 (.t 25),.o 27 (.build [.i 0,.i 0,.i 0] [(0,1),(2,1)]) [.i 2,.t 26],
 .n (.ai 1 3) [.t 4,.t 27],.m 5 (.b true)] [3,25,26,27]) .ret) [] .skip)))))) (.seq (.g [.m 28 (.T 0),
 .f 29 0 (.t 3),.l 30 0 (.t 29),.c 31 69 [.T 28,.t 30],.m 6 (.t 31)] [29,30,31]) (.seq (.seq
 (.g [.m 32 (.t 6),.o 33 (.aR .lss) [.t 32,.i 0]] [32]) (.cond (.T 33) [3,6] (.seq (.g [
 .o 34 (.build [.i 0,.i 0,.i 0] []) [],.n (.ai 1 3) [.t 4,.t 34],.m 5 (.b false)] [34]) .ret) [] .skip))
 (.seq (.g [.m 35 (.t 6),.f 36 1 (.t 3),.l 37 0 (.t 36),
 .o 38 (.build [.i 0,.i 0,.i 0] [(0,1),(1,1),(2,1)]) [.i 3,.t 35,.t 37],.n (.ai 1 3) [.t 4,.t 38],
 .m 5 (.b true)] [3,6,35,36,37,38]) .ret)))))) }
def s71:aD:={ fV:=71,mode:=.pure,aF:=0,aP:=1,dM:=[],results:=[.box 0 0 3 true],body:=
 (.seq (.g [.o 0 (.aH 0 [.i 0,.i 0,.i 0]) []] []) (.seq (.g [
 .o 1 (.build [.i 0,.i 0,.i 0] []) [],.n (.ai 0 3) [.t 0,.t 1]] [1]) .ret)) }
def yQ:aD:={ fV:=72,mode:=.l9,aF:=2,aP:=1,dM:=[],results:=[.tmp 4 false],body:=
 (.seq (.g [.o 3 (.gq 0 9) [.T 1],.m 4 (.b false)] [4]) (.seq (.seq (.g [.f 5 0 (.t 3),
 .l 6 0 (.t 5)] [5]) (.block 0 (.seq (.g [.o 8 (.aR .eql) [.t 6,.i 1],.m 7 (.t 8)] [8])
 (.cond (.T 7) [0,6] (.seq (.g [.f 9 4 (.t 3),.l 10 0 (.t 9),.o 11 (.len .sl) [.T 10],
 .o 12 (.aR .eql) [.t 11,.i 0],.m 4 (.t 12)] [3,9,11,12]) .ret) [] (.seq (.g [.o 14 (.aR .eql) [.t 6,.i 4],
 .m 13 (.t 14)] [14]) (.cond (.T 13) [0,6] (.seq (.g [.f 15 4 (.t 3),.l 16 0 (.t 15),
 .o 17 (.len .sl) [.T 16],.o 18 (.aR .eql) [.t 17,.i 2],.m 19 (.t 18),.y 20 (.fieldAddr 4) [.t 3] 19,
 .y 21 (.aE 0 false 1 false) [.t 20] 19,.y 22 (.indexAddr 11) [.T 21,.i 0] 19,.y 23 (.fieldAddr 0) [.T 22] 19,
 .y 24 (.load false 1 false) [.T 23] 19,.y 25 (.aR .eql) [.t 24,.i 5] 19,.y 26 .move [.t 25] 19,.z 27 (.fieldAddr 4) [.t 3] 26,
 .z 28 (.aE 0 false 1 false) [.t 27] 26,.z 29 (.indexAddr 11) [.T 28,.i 0] 26,.z 30 (.fieldAddr 0) [.T 29] 26,
 .z 31 (.load false 1 false) [.T 30] 26,.z 32 (.aR .eql) [.t 31,.i 6] 26,.y 33 .pick [.t 26,.b true,.t 32] 19,
 .o 34 .pick [.t 19,.t 33,.b false],.m 4 (.t 34)] [3,15,17,18,19,20,21,22,23,24,25,26,27,28,29,30,31,32,33,34]) .ret) [] (.seq
 (.g [.o 36 (.aR .eql) [.t 6,.i 7],.m 35 (.t 36)] [36]) (.cond (.T 35) [6] (.seq (.g [.f 37 4 (.t 3),
 .l 38 0 (.t 37),.o 39 (.len .sl) [.T 38],.o 40 (.aR .eql) [.t 39,.i 1],.m 41 (.t 40),.y 42 .move [.t 0] 41,
 .y 43 .nilCheck [.t 42] 41,.y 44 (.fieldAddr 5) [.T 43] 41,.y 45 (.fieldAddr 2) [.T 44] 41,.y 46 (.load false 1 false) [.T 45] 41,
 .o 47 .pick [.t 41,.t 46,.b false],.m 48 (.t 47),.z 49 (.fieldAddr 4) [.t 3] 48,.z 50 (.aE 0 false 1 false) [.t 49] 48,
 .z 51 (.len .sl) [.T 50] 48,.z 52 (.aR .eql) [.t 51,.i 0] 48,.z 53 .move [.t 52] 48,.y 54 .move [.t 0] 53,.y 55 .nilCheck [.t 54] 53,
 .y 56 (.fieldAddr 5) [.T 55] 53,.y 57 (.fieldAddr 2) [.T 56] 53,.y 58 (.load false 1 false) [.T 57] 53,.y 59 (.un .not) [.t 58] 53,
 .z 60 .pick [.t 53,.t 59,.b false] 48,.o 61 .pick [.t 48,.b true,.t 60],
 .m 4 (.t 61)] [0,3,37,39,40,41,42,43,44,45,46,47,48,49,50,51,52,53,54,55,56,57,58,59,60,61]) .ret) [0] (.seq (.g [
 .o 63 (.aR .eql) [.t 6,.i 9],.m 62 (.t 63)] [63]) (.cond (.T 62) [6] (.seq (.g [.f 64 4 (.t 3),
 .l 65 0 (.t 64),.o 66 (.len .sl) [.T 65],.o 67 (.aR .eql) [.t 66,.i 1],.m 68 (.t 67),
 .y 69 (.fieldAddr 4) [.t 3] 68,.y 70 (.aE 0 false 1 false) [.t 69] 68,.y 71 (.indexAddr 11) [.T 70,.i 0] 68,
 .y 72 (.fieldAddr 0) [.T 71] 68,.y 73 (.load false 1 false) [.T 72] 68,.y 74 (.aR .eql) [.t 73,.i 7] 68,
 .o 75 .pick [.t 68,.t 74,.b false],.m 4 (.t 75)] [3,64,66,67,68,69,70,71,72,73,74,75]) .ret) [] (.seq (.seq (.g [
 .o 77 (.aR .eql) [.t 6,.i 2],.m 76 (.t 77)] [77]) (.cond (.t 76) [6] .skip [76] (.seq (.g [
 .o 78 (.aR .eql) [.t 6,.i 3],.m 76 (.t 78)] [78]) (.cond (.t 76) [6] .skip [76] (.seq (.g [
 .o 79 (.aR .eql) [.t 6,.i 5],.m 76 (.t 79)] [79]) (.cond (.t 76) [6] .skip [76] (.seq (.g [
 .o 80 (.aR .eql) [.t 6,.i 6],.m 76 (.t 80)] [80]) (.cond (.t 76) [6] .skip [76] (.g [
 .o 81 (.aR .eql) [.t 6,.i 8],.m 76 (.t 81)] [6,81]))))))))) (.cond (.T 76) [] (.seq (.g [.f 82 4 (.t 3),
 .l 83 0 (.t 82),.o 84 (.len .sl) [.T 83],.o 85 (.aR .eql) [.t 84,.i 1],.m 4 (.t 85)] [3,82,84,85])
 .ret) [3] .skip)))))))))))) (.seq (.g [.m 4 (.b false)] []) .ret))) }
def s73:aD:={ fV:=73,mode:=.l9,aF:=2,aP:=0,dM:=[],results:=[],body:=
 (.seq (.g [.m 4 (.t 0),.c 5 25 [.t 4],.o 6 (.un .not) [.t 5]] [4,5]) (.cond (.T 6) [] (.g [.m 7 (.t 0),
 .m 8 (.t 1),.o 9 (.build [.i 0,.i 0] [(0,1),(1,1)]) [.i 3,.t 8],.o 10 .nilCheck [.t 7],.f 11 12 (.T 10),
 .n (.store 2) [.T 11,.t 9]] [0,1,7,8,9]) [0,1] .skip)) }
def U5:aD:={ fV:=74,mode:=.l9,aF:=2,aP:=3,dM:=[],results:=[.box 4 1 11 true],body:=
 (.seq (.g [.o 3 (.gq 0 11) [.T 1],
 .o 4 (.aH 1 [.i 0,.i 0,.str [],.str [],.i 0,.U,.i 0,.i 0,.i 0,.i 0,.i 0]) []] []) (.seq
 (.seq (.g [.o 7 (.aE 0 true 11 false) [.t 3],.c 8 84 [.T 7],.o 9 (.un .not) [.t 8]] [8]) (.cond (.T 9) [] (.seq (.g [
 .m 10 (.t 0),.f 11 6 (.t 3),.l 12 0 (.t 11),.c 13 73 [.t 10,.t 12]] [0,3,10,11,12,13]) (.seq
 (.g [.o 14 (.build [.i 0,.i 0,.str [],.str [],.i 0,.U,.i 0,.i 0,.i 0,.i 0,.i 0] []) [],
 .n (.ai 1 11) [.t 4,.T 14]] []) .ret)) [] .skip)) (.seq (.g [.o 15 (.aE 0 true 11 false) [.t 3],.c 16 85 [.T 15],
 .o 5 (.aH 2 [.i 0,.i 0,.str [],.str [],.i 0,.U,.i 0,.i 0,.i 0,.i 0,.i 0]) [],
 .n (.ai 2 11) [.t 5,.T 16]] []) (.seq (.g [.m 17 (.t 0),.f 18 5 (.t 3),.l 19 0 (.t 18),
 .c 20 75 [.t 17,.T 19],.f 21 5 (.t 5),.n (.ai 2 1) [.t 21,.T 20]] [17,18,21]) (.seq (.seq (.g [.m 22 (.t 0),
 .c 23 25 [.t 22]] [22]) (.cond (.T 23) [0,3,5] (.seq (.g [
 .o 24 (.build [.i 0,.i 0,.str [],.str [],.i 0,.U,.i 0,.i 0,.i 0,.i 0,.i 0] []) [],
 .n (.ai 1 11) [.t 4,.T 24]] []) .ret) [] .skip)) (.seq (.g [.m 6 (.b false)] [6]) (.seq (.g [.m 26 (.t 0),
 .o 27 (.aE 2 true 11 false) [.t 5],.c 28 86 [.t 26,.T 27],.m 25 (.T 28),.o 29 (.extract 0) [.t 25],.o 30 (.extract 1) [.t 25],
 .o 31 (.extract 2) [.T 25],.f 32 7 (.t 5),.n (.ai 2 3) [.t 32,.t 29],.f 33 10 (.t 5),.n (.ai 2 1) [.t 33,.t 30],
 .m 6 (.t 31)] [26,29,30,31,32,33]) (.seq (.seq (.g [.m 34 (.t 6),.o 35 (.un .not) [.t 34]] [6,34]) (.cond (.T 35) [] (.g [
 .m 36 (.t 0),.f 37 6 (.t 3),.l 38 0 (.t 37),.c 39 73 [.t 36,.t 38]] [0,3,36,37,38,39]) [0,3] .skip))
 (.seq (.g [.o 40 (.aE 2 true 11 false) [.t 5],.n (.ai 1 11) [.t 4,.T 40]] [5]) .ret))))))))) }
def Kj:bQ:=
 (.seq (.g [.o 11 (.aR .lss) [.t 10,.t 9]] []) (.seq (.cond (.T 11) [] .skip [0,8,9,10] (.exit 0)) (.seq (.block 1 (.seq (.g [
 .o 12 (.indexAddr 11) [.t 8,.t 10],.o 13 (.load true 11 false) [.T 12],
 .o 7 (.aH 0 [.i 0,.i 0,.str [],.str [],.i 0,.U,.i 0,.i 0,.i 0,.i 0,.i 0]) [],
 .n (.ai 0 11) [.t 7,.T 13]] []) (.seq (.seq (.g [.m 14 (.t 0),.c 15 25 [.t 14]] [14]) (.cond (.T 15) [0,5,7,8,9,10] (.seq
 (.g [.o 4 .move [.const .U]] []) .ret) [] .skip)) (.g [.m 16 (.T 5),.m 17 (.t 0),.o 18 (.aE 0 true 11 false) [.t 7],
 .c 19 87 [.t 17,.T 18],
 .o 20 (.lit 11 1 [.i 0,.i 0,.str [],.str [],.i 0,.U,.i 0,.i 0,.i 0,.i 0,.i 0] [0]) [.T 19],
 .o 21 (.append 11 120) [.T 16,.T 20],.m 5 (.T 21)] [7,17])))) (.g [.o 22 (.aR .add) [.t 10,.i 1],
 .m 10 (.t 22)] [22]))))
def s75:aD:={ fV:=75,mode:=.l9,aF:=2,aP:=1,dM:=[],results:=[.tmp 4 true],body:=
 (.seq (.g [.o 4 .move [.const .U]] [4]) (.seq (.g [.o 5 .move [.const .U]] []) (.seq (.seq (.g [.m 8 (.T 1),
 .o 9 (.len .sl) [.t 8],.m 10 (.i 0)] []) (.block 0 (.loop Kj))) (.seq (.g [.m 23 (.T 5),
 .m 4 (.T 23)] []) .ret)))) }
def wZ:aD:={ fV:=76,mode:=.l9,aF:=3,aP:=3,dM:=[],results:=[.tmp 6 false,.tmp 7 false],body:=
 (.seq (.g [.o 4 (.gq 0 9) [.T 1],.o 5 (.gq 1 3) [.t 2],.m 6 (.i 0),.m 7 (.b false)] [2,6,7]) (.seq
 (.seq (.g [.f 11 0 (.t 4),.l 12 0 (.t 11)] [11]) (.block 0 (.seq (.g [
 .o 14 (.aR .eql) [.t 12,.i 1],.m 13 (.t 14)] [14]) (.cond (.T 13) [12] (.seq (.g [.m 15 (.t 0),
 .f 16 1 (.t 4),.l 17 0 (.t 16),.o 18 (.aE 1 true 3 false) [.t 5],.c 19 88 [.t 15,.t 17,.t 18],
 .o 20 (.extract 0) [.t 19],.o 21 (.extract 1) [.T 19],.m 6 (.t 20),.m 7 (.t 21)] [0,4,5,15,16,17,18,20,21]) .ret) [] (.seq (.g [
 .o 23 (.aR .eql) [.t 12,.i 2],.m 22 (.t 23)] [23]) (.cond (.T 22) [12] (.seq (.seq (.r [.f 24 4 (.t 4),
 .l 25 0 (.t 24),.o 26 (.indexAddr 11) [.T 25,.i 0],.f 27 7 (.T 26),.o 28 (.load true 3 false) [.T 27],
 .o 29 (.aE 1 true 3 false) [.t 5],.o 30 (.Ai (.flat [.int,.int,.int]) true) [.t 28,.t 29]] (some []) [24,28,29]) (.cond (.T 30) [0,4,5] (.seq (.g [
 .m 6 (.i 0),.m 7 (.b false)] []) .ret) [] .skip)) (.seq (.g [.m 31 (.t 0),
 .f 32 1 (.t 4),.l 33 0 (.t 32),.o 34 (.aE 1 true 3 false) [.t 5],.c 35 88 [.t 31,.t 33,.t 34],
 .o 36 (.extract 0) [.t 35],.o 37 (.extract 1) [.T 35],.m 6 (.t 36),.m 7 (.t 37)] [0,4,5,31,32,33,34,36,37]) .ret)) [5] (.seq (.g [
 .o 39 (.aR .eql) [.t 12,.i 3],.m 38 (.t 39)] [39]) (.cond (.T 38) [12] (.seq (.g [.m 41 (.t 0),
 .f 42 1 (.t 4),.l 43 0 (.t 42),.c 44 89 [.t 41,.t 43],.m 40 (.T 44),.o 45 (.extract 0) [.t 40],
 .o 46 (.extract 1) [.t 40],.o 47 (.extract 2) [.T 40],.o 9 (.aH 2 [.i 0,.i 0,.i 0]) [],.m 8 (.t 45),
 .n (.ai 2 3) [.t 9,.t 46],.m 10 (.t 47)] [0,41,42,43,45,46,47]) (.seq (.r [.m 48 (.t 8),.m 49 (.t 10),.m 50 (.t 49),
 .y 51 (.aE 2 true 3 false) [.t 9] 50,.y 52 (.fieldAddr 4) [.t 4] 50,.y 53 (.aE 0 false 1 false) [.t 52] 50,
 .y 54 (.indexAddr 11) [.T 53,.i 0] 50,.y 55 (.fieldAddr 7) [.T 54] 50,.y 56 (.load true 3 false) [.T 55] 50,
 .y 57 (.Ai (.flat [.int,.int,.int]) false) [.t 51,.t 56] 50,.o 58 .pick [.t 50,.t 57,.b false],.m 6 (.t 48),
 .m 7 (.t 58)] (some []) [4,8,9,10,48,49,50,51,52,53,54,55,56,57,58]) .ret)) [] (.seq (.g [.o 60 (.aR .eql) [.t 12,.i 4],
 .m 59 (.t 60)] [60]) (.cond (.T 59) [0,12] (.seq (.r [.f 61 4 (.t 4),.l 62 0 (.t 61),
 .o 63 (.indexAddr 11) [.T 62,.i 0],.f 64 7 (.T 63),.o 65 (.load true 3 false) [.T 64],.f 66 4 (.t 4),
 .l 67 0 (.t 66),.o 68 (.indexAddr 11) [.T 67,.i 1],.f 69 7 (.T 68),.o 70 (.load true 3 false) [.T 69],
 .o 71 (.Ai (.flat [.int,.int,.int]) false) [.t 65,.t 70],.m 6 (.i 0),.m 7 (.t 71)] (some []) [4,61,65,66,70,71]) .ret) [] (.seq
 (.seq (.g [.o 73 (.aR .eql) [.t 12,.i 5],.m 72 (.t 73)] [73]) (.cond (.t 72) [] .skip [72] (.g [
 .o 74 (.aR .eql) [.t 12,.i 6],.m 72 (.t 74)] [74]))) (.cond (.T 72) [0,12] (.seq (.r [.f 75 4 (.t 4),
 .l 76 0 (.t 75),.o 77 (.indexAddr 11) [.T 76,.i 0],.f 78 7 (.T 77),.o 79 (.load true 3 false) [.T 78],
 .c 80 90 [],.o 81 (.Ai (.flat [.int,.int,.int]) false) [.t 79,.t 80],.m 6 (.i 0),
 .m 7 (.t 81)] (some []) [4,75,79,80,81]) .ret) [] (.seq (.g [.o 83 (.aR .eql) [.t 12,.i 7],.m 82 (.t 83)] [83])
 (.cond (.T 82) [12] (.seq (.r [.f 84 4 (.t 4),.l 85 0 (.t 84),.o 86 (.len .sl) [.T 85],
 .o 87 (.aR .eql) [.t 86,.i 0],.m 88 (.t 87),.z 89 (.fieldAddr 4) [.t 4] 88,.z 90 (.aE 0 false 1 false) [.t 89] 88,
 .z 91 (.indexAddr 11) [.T 90,.i 0] 88,.z 92 (.fieldAddr 7) [.T 91] 88,.z 93 (.load true 3 false) [.T 92] 88,.z 94 .move [.t 0] 88,
 .z 95 .nilCheck [.t 94] 88,.z 96 (.fieldAddr 5) [.T 95] 88,.z 97 (.fieldAddr 3) [.T 96] 88,.z 98 (.load true 3 false) [.T 97] 88,
 .z 99 (.Ai (.flat [.int,.int,.int]) false) [.t 93,.t 98] 88,.o 100 .pick [.t 88,.b true,.t 99],.m 6 (.i 0),
 .m 7 (.t 100)] (some []) [0,4,84,86,87,88,89,90,91,92,93,94,95,96,97,98,99,100]) .ret) [0] (.seq (.g [
 .o 102 (.aR .eql) [.t 12,.i 8],.m 101 (.t 102)] [12,102]) (.cond (.T 101) [] (.seq (.r [.f 103 4 (.t 4),
 .l 104 0 (.t 103),.o 105 (.indexAddr 11) [.T 104,.i 0],.f 106 7 (.T 105),
 .o 107 (.load true 3 false) [.T 106],.c 108 91 [],.o 109 (.Ai (.flat [.int,.int,.int]) false) [.t 107,.t 108],.m 6 (.i 0),
 .m 7 (.t 109)] (some []) [4,103,107,108,109]) .ret) [4] .skip)))))))))))))))) (.seq (.g [.m 6 (.i 0),
 .m 7 (.b true)] []) .ret))) }
def QU:bQ:=
 (.seq (.g [.o 11 (.aR .lss) [.t 10,.t 9]] []) (.seq (.cond (.T 11) [] .skip [0,8,9,10] (.exit 0)) (.seq (.block 1 (.seq (.g [
 .o 12 (.indexAddr 11) [.t 8,.t 10],.o 13 (.load true 11 false) [.T 12],
 .o 7 (.aH 0 [.i 0,.i 0,.str [],.str [],.i 0,.U,.i 0,.i 0,.i 0,.i 0,.i 0]) [],
 .n (.ai 0 11) [.t 7,.T 13]] []) (.g [.m 14 (.T 5),.m 15 (.t 0),.o 16 (.aE 0 true 11 false) [.t 7],
 .c 17 65 [.t 15,.T 16],.o 18 (.lit 1 1 [.i 0] [0]) [.t 17],.o 19 (.append 1 8) [.T 14,.T 18],.m 5 (.T 19)] [7,15,17])))
 (.g [.o 20 (.aR .add) [.t 10,.i 1],.m 10 (.t 20)] [20]))))
def s77:aD:={ fV:=77,mode:=.Ds,aF:=2,aP:=1,dM:=[],results:=[.tmp 4 true],body:=
 (.seq (.g [.o 4 .move [.const .U]] [4]) (.seq (.g [.o 5 .move [.const .U]] []) (.seq (.seq (.g [.m 8 (.T 1),
 .o 9 (.len .sl) [.t 8],.m 10 (.i 0)] []) (.block 0 (.loop QU))) (.seq (.g [.m 21 (.T 5),
 .m 4 (.T 21)] []) .ret)))) }
def s78:aD:={ fV:=78,mode:=.Ds,aF:=2,aP:=1,dM:=[],results:=[.tmp 4 false],body:=
 (.seq (.g [.o 3 (.gq 0 11) [.T 1],.m 4 (.i 0)] [4]) (.seq (.g [.m 6 (.t 0),
 .o 7 (.aE 0 true 11 false) [.t 3],.c 8 65 [.t 6,.T 7],.m 5 (.t 8)] [3,6,8]) (.seq (.g [.m 9 (.t 0),.m 10 (.t 5),
 .m 11 (.t 0),.c 12 79 [.t 11],.o 13 (.aR .add) [.t 12,.i 1],
 .o 14 (.build [.i 0,.i 0,.i 0,.i 0,.i 0,.U] [(0,1),(1,1),(4,1)]) [.i 17,.t 10,.t 13],
 .c 15 30 [.t 9,.T 14],.m 4 (.t 15)] [0,5,9,10,11,12,13,15]) .ret))) }
def s79:aD:={ fV:=79,mode:=.l9,aF:=1,aP:=0,dM:=[],results:=[.tmp 2 false],body:=
 (.seq (.g [.m 2 (.i 0)] [2]) (.seq (.g [.m 3 (.t 0),.o 4 .nilCheck [.t 3],.f 5 5 (.T 4),
 .f 6 6 (.T 5),.d 7 (.T 6),.o 8 (.len .sl) [.T 7],.m 2 (.t 8)] [0,3,8]) .ret)) }
def s80:aD:={ fV:=80,mode:=.Ds,aF:=3,aP:=1,dM:=[],results:=[.tmp 6 false],body:=
 (.seq (.g [.o 4 (.gq 0 11) [.T 1],.m 6 (.i 0)] [6]) (.seq (.g [.o 7 .move [.const (.i (-1))]] []) (.seq
 (.seq (.g [.f 8 7 (.t 4),.o 9 (.aE 0 true 3 false) [.t 8],.o 10 (.build [.i 0,.i 0,.i 0] []) [],
 .o 11 (.Ai (.flat [.int,.int,.int]) true) [.t 9,.t 10]] [8,9,10]) (.cond (.T 11) [7] (.g [.m 12 (.t 0),.f 13 7 (.t 4),
 .o 14 (.aE 0 true 3 false) [.t 13],.c 15 29 [.t 12,.t 14],.m 7 (.t 15)] [12,13,14,15]) [] .skip)) (.seq (.g [.m 16 (.t 0),
 .m 17 (.t 7),.f 18 10 (.t 4),.l 19 0 (.t 18),.m 20 (.T 2),
 .o 21 (.build [.i 0,.i 0,.i 0,.i 0,.i 0,.U] [(0,1),(1,1),(3,1),(5,1)]) [.i 13,.t 17,.t 19,.T 20],
 .c 22 30 [.t 16,.T 21]] [0,4,16,17,18,19,22]) (.seq (.g [.m 23 (.t 7),.m 6 (.t 23)] [7,23]) .ret))))) }
def s81:aD:={ fV:=81,mode:=.l9,aF:=3,aP:=2,dM:=[],results:=[.box 6 1 6 true],body:=
 (.seq (.g [.o 4 (.gq 0 11) [.T 1],.o 6 (.aH 1 [.i 0,.i 0,.i 0,.i 0,.i 0,.U]) []] []) (.seq (.seq
 (.g [.f 7 0 (.t 4),.l 8 0 (.t 7)] [7]) (.block 0 (.seq (.seq (.g [
 .o 10 (.aR .eql) [.t 8,.i 1],.m 9 (.t 10)] [10]) (.cond (.t 9) [] .skip [9] (.g [
 .o 11 (.aR .eql) [.t 8,.i 2],.m 9 (.t 11)] [11]))) (.cond (.T 9) [0,2,8] (.seq (.g [.f 12 1 (.t 4),
 .l 13 0 (.t 12),
 .o 14 (.build [.i 0,.i 0,.i 0,.i 0,.i 0,.U] [(0,1),(4,1)]) [.i 1,.t 13],
 .n (.ai 1 6) [.t 6,.T 14]] [4,12,13]) .ret) [] (.seq (.g [.o 16 (.aR .eql) [.t 8,.i 3],.m 15 (.t 16)] [16])
 (.cond (.T 15) [0,2,4,8] (.seq (.g [.o 17 (.build [.i 0,.i 0,.i 0,.i 0,.i 0,.U] [(0,1)]) [.i 2],
 .n (.ai 1 6) [.t 6,.T 17]] []) .ret) [] (.seq (.g [.o 19 (.aR .eql) [.t 8,.i 4],.m 18 (.t 19)] [19])
 (.cond (.T 18) [0,2,8] (.seq (.g [.f 20 10 (.t 4),.l 21 0 (.t 20),
 .o 22 (.aR .sub) [.const (.i (-1)),.t 21],
 .o 23 (.build [.i 0,.i 0,.i 0,.i 0,.i 0,.U] [(0,1),(4,1)]) [.i 19,.t 22],
 .n (.ai 1 6) [.t 6,.T 23]] [4,20,21,22]) .ret) [] (.seq (.g [.o 25 (.aR .eql) [.t 8,.i 5],.m 24 (.t 25)] [25])
 (.cond (.T 24) [0,8] (.seq (.r [.m 26 (.T 2),.o 27 (.indexAddr 1) [.T 26,.i 0],.d 28 (.T 27),
 .f 29 10 (.t 4),.l 30 0 (.t 29),
 .o 31 (.build [.i 0,.i 0,.i 0,.i 0,.i 0,.U] [(0,1),(2,1),(3,1)]) [.i 6,.t 28,.t 30],
 .n (.ai 1 6) [.t 6,.T 31]] (some []) [4,28,29,30]) .ret) [] (.seq (.g [.o 33 (.aR .eql) [.t 8,.i 6],
 .m 32 (.t 33)] [33]) (.cond (.T 32) [0,4,8] (.seq (.r [.m 34 (.t 2),.o 35 (.indexAddr 1) [.T 34,.i 0],
 .d 36 (.T 35),.m 37 (.t 2),.o 38 (.indexAddr 1) [.T 37,.i 1],.d 39 (.T 38),
 .o 40 (.build [.i 0,.i 0,.i 0,.i 0,.i 0,.U] [(0,1),(2,1),(3,1)]) [.i 8,.t 36,.t 39],
 .n (.ai 1 6) [.t 6,.T 40]] (some []) [2,36,39]) .ret) [] (.seq (.g [.o 42 (.aR .eql) [.t 8,.i 8],.m 41 (.t 42)] [42])
 (.cond (.T 41) [2,8] (.seq (.g [.m 43 (.t 0),.f 44 7 (.t 4),.o 45 (.aE 0 true 3 false) [.t 44],.c 46 92 [.t 43,.t 45],
 .o 47 (.build [.i 0,.i 0,.i 0,.i 0,.i 0,.U] [(0,1),(4,1)]) [.i 11,.t 46],
 .n (.ai 1 6) [.t 6,.T 47]] [0,4,43,44,45,46]) .ret) [] (.seq (.g [.o 49 (.aR .eql) [.t 8,.i 9],
 .m 48 (.t 49)] [49]) (.cond (.T 48) [8] (.seq (.r [.m 50 (.T 2),.o 51 (.indexAddr 1) [.T 50,.i 0],
 .d 52 (.T 51),.m 53 (.t 0),.f 54 7 (.t 4),.o 55 (.aE 0 true 3 false) [.t 54],.c 56 92 [.t 53,.t 55],
 .o 57 (.build [.i 0,.i 0,.i 0,.i 0,.i 0,.U] [(0,1),(2,1),(4,1)]) [.i 12,.t 52,.t 56],
 .n (.ai 1 6) [.t 6,.T 57]] (some [(1,6),(2,6)]) [0,4,52,53,54,55,56]) .ret) [0] (.seq (.g [.o 59 (.aR .eql) [.t 8,.i 10],
 .m 58 (.t 59)] [59]) (.cond (.T 58) [4,8] (.seq (.g [.m 60 (.T 2),.o 61 (.indexAddr 1) [.T 60,.i 0],
 .d 62 (.T 61),
 .o 63 (.build [.i 0,.i 0,.i 0,.i 0,.i 0,.U] [(0,1),(2,1)]) [.i 10,.t 62],
 .n (.ai 1 6) [.t 6,.T 63]] [62]) .ret) [] (.seq (.g [.o 65 (.aR .eql) [.t 8,.i 11],.m 64 (.t 65)] [65])
 (.cond (.T 64) [2,4,8] (.seq (.g [.o 66 (.build [.i 0,.i 0,.i 0,.i 0,.i 0,.U] [(0,1)]) [.i 14],
 .n (.ai 1 6) [.t 6,.T 66]] []) .ret) [] (.seq (.seq (.g [.o 68 (.aR .eql) [.t 8,.i 12],.m 67 (.t 68)] [68])
 (.cond (.t 67) [8] .skip [67] (.g [.o 69 (.aR .eql) [.t 8,.i 13],.m 67 (.t 69)] [8,69]))) (.cond (.T 67) [] (.seq
 (.r [.m 70 (.T 2),.o 71 (.indexAddr 1) [.T 70,.i 0],.d 72 (.T 71),.f 73 0 (.t 4),
 .l 74 0 (.t 73),
 .o 75 (.build [.i 0,.i 0,.i 0,.i 0,.i 0,.U] [(0,1),(2,1),(4,1)]) [.i 5,.t 72,.t 74],
 .n (.ai 1 6) [.t 6,.T 75]] (some []) [4,72,73,74]) .ret) [] .skip)))))))))))))))))))))) (.seq (.r [.m 76 (.t 2),
 .o 77 (.indexAddr 1) [.T 76,.i 0],.d 78 (.T 77),.m 79 (.t 2),.o 80 (.indexAddr 1) [.T 79,.i 1],
 .d 81 (.T 80),.f 82 0 (.t 4),.l 83 0 (.t 82),
 .o 84 (.build [.i 0,.i 0,.i 0,.i 0,.i 0,.U] [(0,1),(2,1),(3,1),(4,1)]) [.i 4,.t 78,.t 81,.t 83],
 .n (.ai 1 6) [.t 6,.T 84]] (some []) [2,4,78,81,82,83]) .ret))) }
def s82:aD:={ fV:=82,mode:=.l9,aF:=1,aP:=3,dM:=[],results:=[.box 2 0 11 true],body:=
 (.seq (.g [
 .o 2 (.aH 0 [.i 0,.i 0,.str [],.str [],.i 0,.U,.i 0,.i 0,.i 0,.i 0,.i 0]) []] []) (.seq
 (.g [.m 6 (.t 0),.c 7 16 [.t 6],.o 3 (.aH 1 [.i 0,.str [],.i 0,.i 0]) [],
 .n (.ai 1 4) [.t 3,.t 7]] [6,7]) (.seq (.g [.m 4 (.i 0)] [4]) (.seq (.block 0 (.seq (.g [.m 13 (.t 0),
 .c 14 17 [.t 13,.const (.str [45])],.m 12 (.t 14)] [13,14]) (.cond (.T 12) [] (.g [.m 4 (.i 12)] []) []
 (.seq (.g [.m 16 (.t 0),.c 17 17 [.t 16,.const (.str [33])],.m 15 (.t 17)] [16,17]) (.cond (.T 15) [] (.g [
 .m 4 (.i 13)] []) [3] (.seq (.g [.m 8 (.t 0),.m 9 (.t 0),.c 10 94 [.t 9],
 .c 11 93 [.t 8,.T 10],.n (.ai 0 11) [.t 2,.T 11]] [0,8,9]) .ret)))))) (.seq (.g [.m 18 (.t 0),.f 19 1 (.t 3),
 .l 20 1 (.t 19),.c 21 54 [.t 18,.t 20]] [18,19,20,21]) (.seq (.g [.m 22 (.t 0),
 .c 23 67 [.t 22,.i 5],
 .o 5 (.aH 2 [.i 0,.i 0,.str [],.str [],.i 0,.U,.i 0,.i 0,.i 0,.i 0,.i 0]) [],
 .n (.ai 2 11) [.t 5,.T 23]] [22]) (.seq (.g [.m 24 (.t 0),.o 25 .nilCheck [.t 24],.f 26 2 (.T 25),
 .d 27 (.T 26),.o 28 (.aR .sub) [.t 27,.i 1],.o 29 .nilCheck [.t 24],.f 30 2 (.T 29),
 .n (.store 1) [.T 30,.t 28]] [0,24,27,28]) (.seq (.g [.m 31 (.t 4),.o 32 (.aE 2 true 11 false) [.t 5],
 .o 33 (.lit 11 1 [.i 0,.i 0,.str [],.str [],.i 0,.U,.i 0,.i 0,.i 0,.i 0,.i 0] [0]) [.T 32],
 .f 34 3 (.t 3),.l 35 1 (.t 34),
 .o 36 (.build [.i 0,.i 0,.str [],.str [],.i 0,.U,.i 0,.i 0,.i 0,.i 0,.i 0] [(0,1),(5,1),(6,1)]) [.t 31,.T 33,.t 35],
 .n (.ai 0 11) [.t 2,.T 36]] [3,4,5,31,34,35]) .ret)))))))) }
def yR:bQ:=
 (.seq (.seq (.g [.m 23 (.t 7),.m 24 (.t 5),.m 25 (.t 0),.o 26 (.indexAddr 1) [.T 24,.t 25],.d 27 (.T 26),
 .o 28 (.len .sl) [.T 27],.o 29 (.aR .lss) [.t 23,.t 28]] [23,25,28]) (.cond (.T 29) [] .skip [0,3,5,6,7] (.exit 0))) (.seq (.block 1 (.seq (.r [
 .m 32 (.t 5),.m 33 (.t 0),.o 34 (.indexAddr 1) [.T 32,.t 33],.d 35 (.T 34),.m 36 (.t 7),
 .o 37 (.indexAddr 1) [.T 35,.t 36],.d 38 (.T 37),.f 39 1 (.t 3),.l 40 0 (.t 39),
 .o 41 (.aR .eql) [.t 38,.t 40]] (some []) [33,36,38,39,40]) (.cond (.T 41) [3,5] (.seq (.g [.m 42 (.T 6),.m 43 (.t 0),
 .o 44 (.indexAddr 1) [.T 42,.t 43],.d 45 (.T 44),.m 46 (.t 7),.o 47 (.indexAddr 1) [.T 45,.t 46],
 .d 48 (.T 47),.m 4 (.t 48)] [0,7,43,46,48]) .ret) [] .skip))) (.g [.m 30 (.t 7),
 .o 31 (.aR .add) [.t 30,.i 1],.m 7 (.t 31)] [30,31])))
def W5:aD:={ fV:=83,mode:=.pure,aF:=2,aP:=1,dM:=[],results:=[.tmp 4 false],body:=
 (.seq (.g [.o 3 (.gq 0 4) [.t 1],.m 4 (.i 0)] [1,4]) (.seq (.seq (.g [.f 8 0 (.t 3),
 .l 9 0 (.t 8),.o 10 (.aR .neq) [.t 9,.i 4]] [8,9]) (.cond (.T 10) [0,3] (.seq (.g [
 .m 4 (.i 0)] []) .ret) [] .skip)) (.seq (.g [.o 11 (.lit 1 1 [.str []] [0]) [.const (.str [124,124])],
 .o 12 (.lit 1 1 [.str []] [0]) [.const (.str [38,38])],
 .o 13 (.lit 1 4 [.str []] [0,1,2,3]) [.const (.str [60]),.const (.str [60,61]),.const (.str [61,61]),.const (.str [33,61])],
 .o 14 (.lit 1 2 [.str []] [0,1]) [.const (.str [43]),.const (.str [45])],
 .o 15 (.lit 1 3 [.str []] [0,1,2]) [.const (.str [42]),.const (.str [47]),.const (.str [37])],
 .o 16 (.lit 1 5 [.U] [0,1,2,3,4]) [.T 11,.T 12,.T 13,.T 14,.T 15],.m 5 (.T 16)] []) (.seq (.g [
 .o 17 (.lit 1 1 [.i 0] [0]) [.i 24],.o 18 (.lit 1 1 [.i 0] [0]) [.i 23],
 .o 19 (.lit 1 4 [.i 0] [0,1,2,3]) [.i 19,.i 20,.i 21,.i 22],
 .o 20 (.lit 1 2 [.i 0] [0,1]) [.i 14,.i 15],
 .o 21 (.lit 1 3 [.i 0] [0,1,2]) [.i 16,.i 17,.i 18],
 .o 22 (.lit 1 5 [.U] [0,1,2,3,4]) [.T 17,.T 18,.T 19,.T 20,.T 21],.m 6 (.T 22)] []) (.seq (.seq (.g [
 .m 7 (.i 0)] []) (.block 0 (.loop yR))) (.seq (.g [.m 4 (.i 0)] []) .ret)))))) }
def El:aD:={ fV:=84,mode:=.pure,aF:=1,aP:=1,dM:=[],results:=[.tmp 2 false],body:=
 (.seq (.g [.o 1 (.gq 0 11) [.T 0],.m 2 (.b false)] [2]) (.seq (.seq (.g [.f 3 0 (.t 1),
 .l 4 0 (.t 3)] [3]) (.block 0 (.seq (.seq (.g [.o 6 (.aR .eql) [.t 4,.i 1],.m 5 (.t 6)] [6])
 (.cond (.t 5) [] .skip [5] (.seq (.g [.o 7 (.aR .eql) [.t 4,.i 3],.m 5 (.t 7)] [7]) (.cond (.t 5) [] .skip [5] (.seq
 (.g [.o 8 (.aR .eql) [.t 4,.i 4],.m 5 (.t 8)] [8]) (.cond (.t 5) [] .skip [5] (.seq (.g [
 .o 9 (.aR .eql) [.t 4,.i 8],.m 5 (.t 9)] [9]) (.cond (.t 5) [] .skip [5] (.g [
 .o 10 (.aR .eql) [.t 4,.i 11],.m 5 (.t 10)] [10]))))))))) (.cond (.T 5) [4] (.seq (.g [.f 11 5 (.t 1),
 .l 12 0 (.t 11),.o 13 (.len .sl) [.T 12],.o 14 (.aR .eql) [.t 13,.i 0],.m 2 (.t 14)] [1,11,13,14])
 .ret) [] (.seq (.g [.o 16 (.aR .eql) [.t 4,.i 2],.m 15 (.t 16)] [16]) (.cond (.T 15) [4] (.seq (.g [
 .f 17 5 (.t 1),.l 18 0 (.t 17),.o 19 (.len .sl) [.T 18],.o 20 (.aR .eql) [.t 19,.i 0],
 .m 21 (.t 20),.y 22 (.fieldAddr 1) [.t 1] 21,.y 23 (.aE 0 false 1 false) [.t 22] 21,.y 24 (.aR .eql) [.t 23,.i 0] 21,
 .y 25 .move [.t 24] 21,.z 26 (.fieldAddr 1) [.t 1] 25,.z 27 (.aE 0 false 1 false) [.t 26] 25,.z 28 (.aR .eql) [.t 27,.i 1] 25,
 .y 29 .pick [.t 25,.b true,.t 28] 21,.o 30 .pick [.t 21,.t 29,.b false],
 .m 2 (.t 30)] [1,17,19,20,21,22,23,24,25,26,27,28,29,30]) .ret) [] (.seq (.g [.o 32 (.aR .eql) [.t 4,.i 7],
 .m 31 (.t 32)] [32]) (.cond (.T 31) [1,4] (.seq (.g [.m 2 (.b true)] []) .ret) [] (.seq (.seq (.g [
 .o 34 (.aR .eql) [.t 4,.i 5],.m 33 (.t 34)] [34]) (.cond (.t 33) [4] .skip [33] (.seq (.g [
 .o 35 (.aR .eql) [.t 4,.i 9],.m 33 (.t 35)] [35]) (.cond (.t 33) [4] .skip [33] (.seq (.g [
 .o 36 (.aR .eql) [.t 4,.i 10],.m 33 (.t 36)] [36]) (.cond (.t 33) [4] .skip [33] (.seq (.g [
 .o 37 (.aR .eql) [.t 4,.i 12],.m 33 (.t 37)] [37]) (.cond (.t 33) [4] .skip [33] (.g [
 .o 38 (.aR .eql) [.t 4,.i 13],.m 33 (.t 38)] [4,38]))))))))) (.cond (.T 33) [] (.seq (.g [.f 39 5 (.t 1),
 .l 40 0 (.t 39),.o 41 (.len .sl) [.T 40],.o 42 (.aR .eql) [.t 41,.i 1],.m 2 (.t 42)] [1,39,41,42])
 .ret) [] .skip)))))))))) (.seq (.g [.f 43 0 (.t 1),.l 44 0 (.t 43),.o 45 (.aR .eql) [.t 44,.i 6],
 .m 46 (.t 45),.z 47 (.fieldAddr 0) [.t 1] 46,.z 48 (.aE 0 false 1 false) [.t 47] 46,.z 49 (.aR .geq) [.t 48,.i 14] 46,
 .z 50 .move [.t 49] 46,.y 51 (.fieldAddr 0) [.t 1] 50,.y 52 (.aE 0 false 1 false) [.t 51] 50,.y 53 (.aR .leq) [.t 52,.i 24] 50,
 .z 54 .pick [.t 50,.t 53,.b false] 46,.o 55 .pick [.t 46,.b true,.t 54],.m 56 (.t 55),.y 57 (.fieldAddr 5) [.t 1] 56,
 .y 58 (.aE 0 false 1 false) [.t 57] 56,.y 59 (.len .sl) [.T 58] 56,.y 60 (.aR .eql) [.t 59,.i 2] 56,
 .o 61 .pick [.t 56,.t 60,.b false],.m 2 (.t 61)] [1,43,44,45,46,47,48,49,50,51,52,53,54,55,56,57,58,59,60,61]) .ret))) }
def QV:aD:={ fV:=85,mode:=.pure,aF:=1,aP:=3,dM:=[],results:=[.box 2 1 11 true],body:=
 (.seq (.g [.o 1 (.gq 0 11) [.T 0],
 .o 2 (.aH 1 [.i 0,.i 0,.str [],.str [],.i 0,.U,.i 0,.i 0,.i 0,.i 0,.i 0]) []] []) (.seq
 (.g [.f 4 0 (.t 1),.l 5 0 (.t 4),.f 6 6 (.t 1),.l 7 0 (.t 6),
 .o 8 (.build [.i 0,.i 0,.str [],.str [],.i 0,.U,.i 0,.i 0,.i 0,.i 0,.i 0] [(0,1),(6,1)]) [.t 5,.t 7],
 .o 3 (.aH 2 [.i 0,.i 0,.str [],.str [],.i 0,.U,.i 0,.i 0,.i 0,.i 0,.i 0]) [],
 .n (.ai 2 11) [.t 3,.T 8]] [4,5,6,7]) (.seq (.seq (.g [.f 9 0 (.t 1),.l 10 0 (.t 9)] [9]) (.block 0
 (.seq (.seq (.g [.o 12 (.aR .eql) [.t 10,.i 1],.m 11 (.t 12)] [12]) (.cond (.t 11) [] .skip [11] (.g [
 .o 13 (.aR .eql) [.t 10,.i 2],.m 11 (.t 13)] [13]))) (.cond (.T 11) [10] (.g [.f 14 1 (.t 1),
 .l 15 0 (.t 14),.f 16 1 (.t 3),.n (.ai 2 1) [.t 16,.t 15]] [1,14,15,16]) [] (.seq (.seq (.g [
 .o 18 (.aR .eql) [.t 10,.i 3],.m 17 (.t 18)] [18]) (.cond (.t 17) [] .skip [17] (.seq (.g [
 .o 19 (.aR .eql) [.t 10,.i 8],.m 17 (.t 19)] [19]) (.cond (.t 17) [] .skip [17] (.g [
 .o 20 (.aR .eql) [.t 10,.i 9],.m 17 (.t 20)] [20]))))) (.cond (.T 17) [10] (.g [.f 21 3 (.t 1),
 .o 22 (.aE 0 true 2 false) [.t 21],.f 23 3 (.t 3),.n (.ai 2 2) [.t 23,.t 22]] [1,21,22,23]) [] (.seq (.seq (.g [
 .o 25 (.aR .eql) [.t 10,.i 4],.m 24 (.t 25)] [25]) (.cond (.t 24) [10] .skip [24] (.seq (.g [
 .o 26 (.aR .eql) [.t 10,.i 5],.m 24 (.t 26)] [26]) (.cond (.t 24) [10] .skip [24] (.g [
 .o 27 (.aR .eql) [.t 10,.i 7],.m 24 (.t 27)] [10,27]))))) (.cond (.T 24) [] (.g [.f 28 2 (.t 1),
 .l 29 0 (.t 28),.f 30 2 (.t 3),.n (.ai 2 1) [.t 30,.t 29]] [1,28,29,30]) [1] .skip)))))))) (.seq (.g [
 .o 31 (.aE 2 true 11 false) [.t 3],.n (.ai 1 11) [.t 2,.T 31]] [3]) .ret)))) }
end cz
