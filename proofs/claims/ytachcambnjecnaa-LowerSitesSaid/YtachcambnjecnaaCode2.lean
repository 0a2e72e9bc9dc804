/- The annotated code of the loaded program,printed by wip/tools/gen.py. -/
import Derived.Test.YtachcambnjecnaaCode1

set_option maxRecDepth 100000
namespace cz
open Ax Go
def tj:aD:={ fV:=86,mode:=.l9,aF:=2,aP:=8,dM:=[],results:=[.box 4 1 3 true,.tmp 5 false,.tmp 6 false],body:=
 (.seq (.g [.o 3 (.gq 0 11) [.T 1],.o 4 (.aH 1 [.i 0,.i 0,.i 0]) [],.m 5 (.i 0),
 .m 6 (.b false)] [5,6]) (.seq (.seq (.g [.f 19 0 (.t 3),.l 20 0 (.t 19)] [19])
 (.block 0 (.seq (.seq (.g [.o 22 (.aR .eql) [.t 20,.i 1],.m 21 (.t 22)] [22]) (.cond (.t 21) [] .skip [21] (.g [
 .o 23 (.aR .eql) [.t 20,.i 11],.m 21 (.t 23)] [23]))) (.cond (.T 21) [0,3,20] (.seq (.g [.c 24 91 [],
 .n (.ai 1 3) [.t 4,.t 24],.m 5 (.i 0),.m 6 (.b true)] [24]) .ret) [] (.seq (.g [
 .o 26 (.aR .eql) [.t 20,.i 2],.m 25 (.t 26)] [26]) (.cond (.T 25) [0,3,20] (.seq (.g [.c 27 90 [],
 .n (.ai 1 3) [.t 4,.t 27],.m 5 (.i 0),.m 6 (.b true)] [27]) .ret) [] (.seq (.g [
 .o 29 (.aR .eql) [.t 20,.i 3],.m 28 (.t 29)] [29]) (.cond (.T 28) [20] (.seq (.r [.m 31 (.t 0),
 .o 32 .nilCheck [.t 31],.f 33 4 (.T 32),.d 34 (.T 33),.f 35 3 (.t 3),
 .o 36 (.aE 0 true 2 false) [.t 35],.c 37 70 [.T 34,.t 36],.m 30 (.T 37),.o 38 (.extract 0) [.t 30],.o 39 (.extract 1) [.t 30],
 .o 7 (.aH 2 [.i 0,.i 0,.i 0]) [],.n (.ai 2 3) [.t 7,.t 38],.m 8 (.t 39)] (some []) [0,3,30,31,35,36,38,39]) (.seq
 (.r [.o 40 (.aE 2 true 3 false) [.t 7],.m 41 (.t 8),.m 42 (.t 41),.y 43 (.aE 2 true 3 false) [.t 7] 42,
 .y 44 (.call 28) [.t 43] 42,.o 45 .pick [.t 42,.t 44,.b false],.n (.ai 1 3) [.t 4,.t 40],.m 5 (.i 0),
 .m 6 (.t 45)] (some []) [7,8,40,41,42,43,44,45]) .ret)) [] (.seq (.g [.o 47 (.aR .eql) [.t 20,.i 4],
 .m 46 (.t 47)] [47]) (.cond (.T 46) [20] (.seq (.g [.m 49 (.t 0),.f 50 2 (.t 3),.l 51 0 (.t 50),
 .c 52 89 [.t 49,.t 51],.m 48 (.T 52),.o 53 (.extract 0) [.t 48],.o 54 (.extract 1) [.t 48],.o 55 (.extract 2) [.T 48],
 .o 10 (.aH 3 [.i 0,.i 0,.i 0]) [],.m 9 (.t 53),.n (.ai 3 3) [.t 10,.t 54],
 .m 11 (.t 55)] [0,3,49,50,51,53,54,55]) (.seq (.g [.o 56 (.aE 3 true 3 false) [.t 10],.m 57 (.t 9),.m 58 (.t 11),
 .n (.ai 1 3) [.t 4,.t 56],.m 5 (.t 57),.m 6 (.t 58)] [9,10,11,56,57,58]) .ret)) [] (.seq (.g [
 .o 60 (.aR .eql) [.t 20,.i 5],.m 59 (.t 60)] [60]) (.cond (.T 59) [20] (.seq (.g [.m 61 (.t 0),
 .o 62 (.aE 0 true 11 false) [.t 3],.c 63 95 [.t 61,.T 62],.o 64 (.extract 0) [.t 63],.o 65 (.extract 1) [.t 63],.o 66 (.extract 2) [.T 63],
 .n (.ai 1 3) [.t 4,.t 64],.m 5 (.t 65),.m 6 (.t 66)] [0,3,61,64,65,66]) .ret) [] (.seq (.g [
 .o 68 (.aR .eql) [.t 20,.i 6],.m 67 (.t 68)] [68]) (.cond (.T 67) [0,20] (.seq (.g [.f 69 5 (.t 3),
 .l 70 0 (.t 69),.o 71 (.indexAddr 11) [.T 70,.i 0],.f 72 7 (.T 71),.o 73 (.load true 3 false) [.T 72],
 .o 12 (.aH 4 [.i 0,.i 0,.i 0]) [],.n (.ai 4 3) [.t 12,.t 73]] [69,73]) (.seq (.r [.f 74 2 (.t 12),
 .l 75 4 (.t 74),.o 76 (.aR .gtr) [.t 75,.i 0],.m 77 (.t 76),.y 78 (.fieldAddr 5) [.t 3] 77,
 .y 79 (.aE 0 false 1 false) [.t 78] 77,.y 80 (.indexAddr 11) [.T 79,.i 1] 77,.y 81 (.fieldAddr 7) [.T 80] 77,
 .y 82 (.load true 3 false) [.T 81] 77,.y 83 (.call 91) [] 77,.y 84 (.Ai (.flat [.int,.int,.int]) false) [.t 82,.t 83] 77,
 .o 85 .pick [.t 77,.t 84,.b false],.m 13 (.t 85)] (some []) [3,74,75,76,77,78,79,80,81,82,83,84,85]) (.seq (.g [
 .f 86 2 (.t 12),.l 87 4 (.t 86),.o 88 (.aR .sub) [.t 87,.i 1],.f 89 2 (.t 12),
 .n (.ai 4 1) [.t 89,.t 88]] [86,87,88,89]) (.seq (.g [.o 90 (.aE 4 true 3 false) [.t 12],.m 91 (.t 13),
 .n (.ai 1 3) [.t 4,.t 90],.m 5 (.i 0),.m 6 (.t 91)] [12,13,90,91]) .ret)))) [] (.seq (.g [
 .o 93 (.aR .eql) [.t 20,.i 7],.m 92 (.t 93)] [93]) (.cond (.T 92) [20] (.seq (.g [.m 94 (.t 0),
 .o 95 (.aE 0 true 11 false) [.t 3],.c 96 96 [.t 94,.T 95],.o 97 (.extract 0) [.t 96],.o 98 (.extract 1) [.t 96],.o 99 (.extract 2) [.T 96],
 .n (.ai 1 3) [.t 4,.t 97],.m 5 (.t 98),.m 6 (.t 99)] [0,3,94,97,98,99]) .ret) [] (.seq (.g [
 .o 101 (.aR .eql) [.t 20,.i 8],.m 100 (.t 101)] [101]) (.cond (.T 100) [20] (.seq (.r [.m 103 (.t 0),
 .o 104 .nilCheck [.t 103],.f 105 4 (.T 104),.d 106 (.T 105),.f 107 3 (.t 3),
 .o 108 (.aE 0 true 2 false) [.t 107],.c 109 70 [.T 106,.t 108],.m 102 (.T 109),.o 110 (.extract 0) [.t 102],.o 111 (.extract 1) [.t 102],
 .o 14 (.aH 5 [.i 0,.i 0,.i 0]) [],.n (.ai 5 3) [.t 14,.t 110],.m 15 (.t 111)] (some []) [0,3,102,103,107,108,110,111])
 (.seq (.r [.o 112 (.aE 5 true 3 false) [.t 14],.m 113 (.t 15),.m 114 (.t 113),.y 115 (.fieldAddr 0) [.t 14] 114,
 .y 116 (.aE 5 false 1 false) [.t 115] 114,.y 117 (.aR .eql) [.t 116,.i 3] 114,.o 118 .pick [.t 114,.t 117,.b false],
 .m 119 (.t 118),.y 120 (.fieldAddr 2) [.t 14] 119,.y 121 (.aE 5 false 1 false) [.t 120] 119,.y 122 (.aR .eql) [.t 121,.i 0] 119,
 .o 123 .pick [.t 119,.t 122,.b false],.n (.ai 1 3) [.t 4,.t 112],.m 5 (.i 0),
 .m 6 (.t 123)] (some []) [14,15,112,113,114,115,116,117,118,119,120,121,122,123]) .ret)) [] (.seq (.g [
 .o 125 (.aR .eql) [.t 20,.i 9],.m 124 (.t 125)] [125]) (.cond (.T 124) [20] (.seq (.r [.m 127 (.t 0),
 .o 128 .nilCheck [.t 127],.f 129 4 (.T 128),.d 130 (.T 129),.f 131 3 (.t 3),
 .o 132 (.aE 0 true 2 false) [.t 131],.c 133 70 [.T 130,.t 132],.m 126 (.T 133),.o 134 (.extract 0) [.t 126],.o 135 (.extract 1) [.t 126],
 .o 16 (.aH 6 [.i 0,.i 0,.i 0]) [],.n (.ai 6 3) [.t 16,.t 134],.m 17 (.t 135)] (some []) [0,126,127,131,132,134,135])
 (.seq (.r [.m 136 (.t 17),.m 137 (.t 136),.y 138 (.fieldAddr 2) [.t 16] 137,.y 139 (.aE 6 false 1 false) [.t 138] 137,
 .y 140 (.aR .lss) [.t 139,.i 3] 137,.o 141 .pick [.t 137,.t 140,.b false],.m 142 (.t 141),
 .y 143 (.fieldAddr 5) [.t 3] 142,.y 144 (.aE 0 false 1 false) [.t 143] 142,.y 145 (.indexAddr 11) [.T 144,.i 0] 142,
 .y 146 (.fieldAddr 7) [.T 145] 142,.y 147 (.load true 3 false) [.T 146] 142,.y 148 (.call 91) [] 142,
 .y 149 (.Ai (.flat [.int,.int,.int]) false) [.t 147,.t 148] 142,.o 150 .pick [.t 142,.t 149,.b false],
 .m 17 (.t 150)] (some []) [3,136,137,138,139,140,141,142,143,144,145,146,147,148,149,150]) (.seq (.g [.f 151 2 (.t 16),
 .l 152 6 (.t 151),.o 153 (.aR .add) [.t 152,.i 1],.f 154 2 (.t 16),
 .n (.ai 6 1) [.t 154,.t 153]] [151,152,153,154]) (.seq (.g [.o 155 (.aE 6 true 3 false) [.t 16],.m 156 (.t 17),
 .n (.ai 1 3) [.t 4,.t 155],.m 5 (.i 0),.m 6 (.t 156)] [16,17,155,156]) .ret)))) [] (.seq (.g [
 .o 158 (.aR .eql) [.t 20,.i 10],.m 157 (.t 158)] [158]) (.cond (.T 157) [0,20] (.seq (.r [.c 159 91 [],
 .f 160 5 (.t 3),.l 161 0 (.t 160),.o 162 (.indexAddr 11) [.T 161,.i 0],.f 163 7 (.T 162),
 .f 164 2 (.T 163),.d 165 (.T 164),.o 166 (.aR .gtr) [.t 165,.i 0],.n (.ai 1 3) [.t 4,.t 159],
 .m 5 (.i 0),.m 6 (.t 166)] (some []) [3,159,160,165,166]) .ret) [] (.seq (.seq (.g [
 .o 168 (.aR .eql) [.t 20,.i 12],.m 167 (.t 168)] [168]) (.cond (.t 167) [20] .skip [167] (.g [
 .o 169 (.aR .eql) [.t 20,.i 13],.m 167 (.t 169)] [20,169]))) (.cond (.T 167) [0] (.seq (.g [.c 170 91 [],
 .o 18 (.aH 7 [.i 0,.i 0,.i 0]) [],.n (.ai 7 3) [.t 18,.t 170]] [170]) (.seq (.seq (.g [.f 171 0 (.t 3),
 .l 172 0 (.t 171),.o 173 (.aR .eql) [.t 172,.i 13]] [171,172]) (.cond (.T 173) [] (.g [
 .c 174 90 [],.n (.ai 7 3) [.t 18,.t 174]] [174]) [] .skip)) (.seq (.r [.o 175 (.aE 7 true 3 false) [.t 18],
 .f 176 5 (.t 3),.l 177 0 (.t 176),.o 178 (.indexAddr 11) [.T 177,.i 0],.f 179 7 (.T 178),
 .o 180 (.load true 3 false) [.T 179],.o 181 (.aE 7 true 3 false) [.t 18],.o 182 (.Ai (.flat [.int,.int,.int]) false) [.t 180,.t 181],
 .n (.ai 1 3) [.t 4,.t 175],.m 5 (.i 0),.m 6 (.t 182)] (some []) [3,18,175,176,180,181,182]) .ret))) []
 .skip)))))))))))))))))))))))) (.seq (.g [.m 183 (.t 0),.o 184 (.aE 0 true 11 false) [.t 3],.c 185 97 [.t 183,.T 184],
 .o 186 (.extract 0) [.t 185],.o 187 (.extract 1) [.t 185],.o 188 (.extract 2) [.T 185],.n (.ai 1 3) [.t 4,.t 186],.m 5 (.t 187),
 .m 6 (.t 188)] [0,3,183,186,187,188]) .ret))) }
def W6:aD:={ fV:=87,mode:=.l9,aF:=2,aP:=3,dM:=[],results:=[.box 4 1 11 true],body:=
 (.seq (.g [.o 3 (.gq 0 11) [.T 1],
 .o 4 (.aH 1 [.i 0,.i 0,.str [],.str [],.i 0,.U,.i 0,.i 0,.i 0,.i 0,.i 0]) []] []) (.seq
 (.g [.m 6 (.t 0),.o 7 (.aE 0 true 11 false) [.t 3],.c 8 74 [.t 6,.T 7],
 .o 5 (.aH 2 [.i 0,.i 0,.str [],.str [],.i 0,.U,.i 0,.i 0,.i 0,.i 0,.i 0]) [],
 .n (.ai 2 11) [.t 5,.T 8]] [3,6]) (.seq (.seq (.r [.f 9 7 (.t 5),.o 10 (.aE 2 true 3 false) [.t 9],.c 11 71 [],
 .o 12 (.Ai (.flat [.int,.int,.int]) false) [.t 10,.t 11]] (some []) [9,10,11]) (.cond (.T 12) [] (.g [.m 13 (.t 0),.f 14 6 (.t 5),
 .l 15 2 (.t 14),.c 16 73 [.t 13,.t 15]] [0,13,14,15,16]) [0] .skip)) (.seq (.g [
 .o 17 (.aE 2 true 11 false) [.t 5],.n (.ai 1 11) [.t 4,.T 17]] [5]) .ret)))) }
def s88:aD:={ fV:=88,mode:=.l9,aF:=3,aP:=1,dM:=[],results:=[.tmp 6 false,.tmp 7 false],body:=
 (.seq (.g [.o 5 (.gq 0 3) [.t 2],.m 6 (.i 0),.m 7 (.b false)] [2,6,7]) (.seq (.seq (.g [
 .m 8 (.t 0),.o 9 .nilCheck [.t 8],.f 10 11 (.T 9),.d 11 (.T 10),.m 12 (.t 1),
 .c 13 98 [.T 11,.t 12],.o 14 (.aR .geq) [.t 13,.i 0]] [8,12,13]) (.cond (.T 14) [0,1,5] (.seq (.g [
 .m 6 (.i 0),.m 7 (.b false)] []) .ret) [] .skip)) (.seq (.r [.m 15 (.t 0),.m 16 (.t 0),
 .o 17 .nilCheck [.t 16],.f 18 11 (.T 17),.o 19 (.load false 1 true) [.T 18],.m 20 (.t 1),.o 21 (.aE 0 true 3 false) [.t 5],
 .o 22 (.build [.str [],.i 0,.i 0,.i 0] [(0,1),(1,3)]) [.t 20,.t 21],
 .o 23 (.lit 4 1 [.str [],.i 0,.i 0,.i 0] [0]) [.t 22],.o 24 (.append 4 40) [.T 19,.T 23],.o 25 .nilCheck [.t 15],
 .f 26 11 (.T 25),.n (.store 1) [.T 26,.T 24]] (some []) [1,5,15,16,20,21,22]) (.seq (.g [.m 27 (.t 0),.o 28 .nilCheck [.t 27],
 .f 29 11 (.T 28),.d 30 (.T 29),.o 31 (.len .sl) [.T 30],.o 32 (.aR .sub) [.t 31,.i 1],
 .m 6 (.t 32),.m 7 (.b true)] [0,27,31,32]) .ret)))) }
def s89:aD:={ fV:=89,mode:=.l9,aF:=2,aP:=1,dM:=[],results:=[.tmp 4 false,.box 5 0 3 true,.tmp 6 false],body:=
 (.seq (.g [.m 4 (.i 0),.o 5 (.aH 0 [.i 0,.i 0,.i 0]) [],.m 6 (.b false)] [4,6])
 (.seq (.seq (.g [.m 9 (.t 0),.o 10 .nilCheck [.t 9],.f 11 11 (.T 10),.d 12 (.T 11),.m 13 (.t 1),
 .c 14 98 [.T 12,.t 13],.m 7 (.t 14)] [9,13,14]) (.seq (.g [.m 15 (.t 7),
 .o 16 (.aR .geq) [.t 15,.i 0]] [15]) (.cond (.T 16) [1] (.seq (.r [.m 17 (.t 7),.m 18 (.t 0),
 .o 19 .nilCheck [.t 18],.f 20 11 (.T 19),.d 21 (.T 20),.m 22 (.t 7),.o 23 (.indexAddr 4) [.T 21,.t 22],
 .f 24 1 (.T 23),.o 25 (.load true 3 false) [.T 24],.m 4 (.t 17),.n (.ai 0 3) [.t 5,.t 25],
 .m 6 (.b true)] (some []) [0,7,17,18,22,25]) .ret) [7] .skip))) (.seq (.seq (.g [.m 26 (.t 0),.o 27 .nilCheck [.t 26],
 .f 28 0 (.T 27),.f 29 1 (.T 28),.d 30 (.T 29),.m 31 (.t 1),.c 32 98 [.T 30,.t 31],
 .m 8 (.t 32)] [1,26,31,32]) (.seq (.g [.m 33 (.t 8),.o 34 (.aR .geq) [.t 33,.i 0]] [33]) (.cond (.T 34) [] (.seq
 (.r [.m 35 (.t 8),.o 36 (.aR .sub) [.const (.i (-1)),.t 35],.m 37 (.t 0),.o 38 .nilCheck [.t 37],.f 39 0 (.T 38),
 .f 40 1 (.T 39),.d 41 (.T 40),.m 42 (.t 8),.o 43 (.indexAddr 4) [.T 41,.t 42],.f 44 1 (.T 43),
 .o 45 (.load true 3 false) [.T 44],.m 4 (.t 36),.n (.ai 0 3) [.t 5,.t 45],.m 6 (.b true)] (some []) [0,8,35,36,37,42,45])
 .ret) [0,8] .skip))) (.seq (.g [.c 46 71 [],.m 4 (.i 0),.n (.ai 0 3) [.t 5,.t 46],
 .m 6 (.b false)] [46]) .ret)))) }
def s90:aD:={ fV:=90,mode:=.pure,aF:=0,aP:=1,dM:=[],results:=[.box 0 0 3 true],body:=
 (.seq (.g [.o 0 (.aH 0 [.i 0,.i 0,.i 0]) []] []) (.seq (.g [
 .o 1 (.build [.i 0,.i 0,.i 0] [(0,1)]) [.i 2],.n (.ai 0 3) [.t 0,.t 1]] [1]) .ret)) }
def s91:aD:={ fV:=91,mode:=.pure,aF:=0,aP:=1,dM:=[],results:=[.box 0 0 3 true],body:=
 (.seq (.g [.o 0 (.aH 0 [.i 0,.i 0,.i 0]) []] []) (.seq (.g [
 .o 1 (.build [.i 0,.i 0,.i 0] [(0,1)]) [.i 1],.n (.ai 0 3) [.t 0,.t 1]] [1]) .ret)) }
def s92:aD:={ fV:=92,mode:=.l9,aF:=2,aP:=1,dM:=[],results:=[.tmp 4 false],body:=
 (.seq (.g [.o 3 (.gq 0 3) [.t 1],.m 4 (.i 0)] [1,4]) (.seq (.r [.m 5 (.t 0),.m 6 (.t 0),
 .o 7 .nilCheck [.t 6],.f 8 0 (.T 7),.f 9 3 (.T 8),.o 10 (.load false 1 true) [.T 9],.m 11 (.t 0),.o 12 .nilCheck [.t 11],
 .f 13 0 (.T 12),.f 14 2 (.T 13),.d 15 (.T 14),.o 16 (.len .sl) [.T 15],
 .o 17 (.aE 0 true 3 false) [.t 3],.o 18 (.build [.i 0,.i 0,.i 0,.i 0] [(0,1),(1,3)]) [.t 16,.t 17],
 .o 19 (.lit 4 1 [.i 0,.i 0,.i 0,.i 0] [0]) [.t 18],.o 20 (.append 4 32) [.T 10,.T 19],.o 21 .nilCheck [.t 5],
 .f 22 0 (.T 21),.f 23 3 (.T 22),.n (.store 1) [.T 23,.T 20]] (some [(10,5),(11,5)]) [3,5,6,11,16,17,18]) (.seq (.g [
 .m 24 (.t 0),.o 25 .nilCheck [.t 24],.f 26 0 (.T 25),.f 27 3 (.T 26),.d 28 (.T 27),
 .o 29 (.len .sl) [.T 28],.o 30 (.aR .sub) [.t 29,.i 1],.m 4 (.t 30)] [0,24,29,30]) .ret))) }
def QW:bQ:=
 (.seq (.seq (.g [.m 7 (.t 0),.c 8 17 [.t 7,.const (.str [46])],.m 9 (.t 8),.z 10 .move [.t 0] 9,
 .z 11 (.call 17) [.t 10,.const (.str [91])] 9,.o 12 .pick [.t 9,.b true,.t 11]] [7,8,9,10,11]) (.cond (.T 12) [] .skip [0] (.exit 0)))
 (.block 1 (.seq (.g [.m 13 (.t 0),.c 14 16 [.t 13],.o 5 (.aH 2 [.i 0,.str [],.i 0,.i 0]) [],
 .n (.ai 2 4) [.t 5,.t 14]] [13,14]) (.seq (.seq (.g [.m 15 (.t 0),.c 16 17 [.t 15,.const (.str [46])]] [15])
 (.cond (.T 16) [] (.seq (.g [.m 17 (.t 0),.o 18 .nilCheck [.t 17],.f 19 1 (.T 18),.d 20 (.T 19),
 .o 21 (.aR .add) [.t 20,.i 1],.o 22 .nilCheck [.t 17],.f 23 1 (.T 22),.n (.store 1) [.T 23,.t 21]] [17,20,21]) (.seq
 (.r [.m 24 (.t 0),.c 25 33 [.t 24],.o 26 (.aE 0 true 11 false) [.t 3],
 .o 27 (.lit 11 1 [.i 0,.i 0,.str [],.str [],.i 0,.U,.i 0,.i 0,.i 0,.i 0,.i 0] [0]) [.T 26],
 .f 28 3 (.t 5),.l 29 2 (.t 28),
 .o 30 (.build [.i 0,.i 0,.str [],.str [],.i 0,.U,.i 0,.i 0,.i 0,.i 0,.i 0] [(0,1),(2,1),(5,1),(6,1)]) [.i 5,.t 25,.T 27,.t 29],
 .n (.ai 0 11) [.t 3,.T 30]] (some []) [5,24,25,28,29]) (.exit 1))) [] .skip)) (.seq (.g [.m 31 (.t 0),
 .c 32 54 [.t 31,.const (.str [91])]] [31,32]) (.seq (.g [.m 33 (.t 0),.c 34 67 [.t 33,.i 0],
 .o 6 (.aH 3 [.i 0,.i 0,.str [],.str [],.i 0,.U,.i 0,.i 0,.i 0,.i 0,.i 0]) [],
 .n (.ai 3 11) [.t 6,.T 34]] [33]) (.seq (.g [.m 35 (.t 0),.c 36 56 [.t 35,.const (.str [93])]] [35,36]) (.g [
 .o 37 (.aE 0 true 11 false) [.t 3],.o 38 (.aE 3 true 11 false) [.t 6],
 .o 39 (.lit 11 2 [.i 0,.i 0,.str [],.str [],.i 0,.U,.i 0,.i 0,.i 0,.i 0,.i 0] [0,1]) [.T 37,.T 38],
 .f 40 3 (.t 5),.l 41 2 (.t 40),
 .o 42 (.build [.i 0,.i 0,.str [],.str [],.i 0,.U,.i 0,.i 0,.i 0,.i 0,.i 0] [(0,1),(5,1),(6,1)]) [.i 6,.T 39,.t 41],
 .n (.ai 0 11) [.t 3,.T 42]] [5,6,40,41]))))))))
def s93:aD:={ fV:=93,mode:=.l9,aF:=2,aP:=4,dM:=[],results:=[.box 4 1 11 true],body:=
 (.seq (.g [.o 3 (.gq 0 11) [.T 1],
 .o 4 (.aH 1 [.i 0,.i 0,.str [],.str [],.i 0,.U,.i 0,.i 0,.i 0,.i 0,.i 0]) []] []) (.seq
 (.block 0 (.loop QW)) (.seq (.g [.o 43 (.aE 0 true 11 false) [.t 3],.n (.ai 1 11) [.t 4,.T 43]] [3]) .ret))) }
def Co:aD:={ fV:=94,mode:=.l9,aF:=1,aP:=2,dM:=[],results:=[.box 2 0 11 true],body:=
 (.seq (.g [
 .o 2 (.aH 0 [.i 0,.i 0,.str [],.str [],.i 0,.U,.i 0,.i 0,.i 0,.i 0,.i 0]) []] []) (.seq
 (.g [.m 6 (.t 0),.c 7 16 [.t 6],.o 3 (.aH 1 [.i 0,.str [],.i 0,.i 0]) [],
 .n (.ai 1 4) [.t 3,.t 7]] [6,7]) (.seq (.block 0 (.seq (.g [.m 9 (.t 0),.c 10 15 [.t 9],.m 11 (.t 10),
 .y 12 (.fieldAddr 0) [.t 3] 11,.y 13 (.aE 1 false 1 false) [.t 12] 11,.y 14 (.aR .eql) [.t 13,.i 2] 11,
 .o 15 .pick [.t 11,.t 14,.b false],.m 8 (.t 15)] [9,10,11,12,13,14,15]) (.cond (.T 8) [] (.seq (.g [.m 16 (.t 0),
 .o 17 .nilCheck [.t 16],.f 18 1 (.T 17),.d 19 (.T 18),.o 20 (.aR .add) [.t 19,.i 1],
 .o 21 .nilCheck [.t 16],.f 22 1 (.T 21),.n (.store 1) [.T 22,.t 20]] [0,16,19,20]) (.seq (.g [.f 23 2 (.t 3),
 .l 24 1 (.t 23),.f 25 3 (.t 3),.l 26 1 (.t 25),
 .o 27 (.build [.i 0,.i 0,.str [],.str [],.i 0,.U,.i 0,.i 0,.i 0,.i 0,.i 0] [(0,1),(1,1),(6,1)]) [.i 1,.t 24,.t 26],
 .n (.ai 0 11) [.t 2,.T 27]] [3,23,24,25,26]) .ret)) [] (.seq (.seq (.g [.m 29 (.t 0),
 .c 30 17 [.t 29,.const (.str [116,114,117,101])],.m 28 (.t 30)] [29,30]) (.cond (.t 28) [] .skip [28] (.g [.m 31 (.t 0),
 .c 32 17 [.t 31,.const (.str [102,97,108,115,101])],.m 28 (.t 32)] [31,32]))) (.cond (.T 28) [] (.seq (.g [.m 33 (.t 0),
 .o 34 .nilCheck [.t 33],.f 35 1 (.T 34),.d 36 (.T 35),.o 37 (.aR .add) [.t 36,.i 1],
 .o 38 .nilCheck [.t 33],.f 39 1 (.T 38),.n (.store 1) [.T 39,.t 37]] [0,33,36,37]) (.seq (.g [
 .m 4 (.i 0)] []) (.seq (.seq (.g [.f 40 1 (.t 3),.l 41 1 (.t 40),
 .o 42 (.aR .eql) [.t 41,.const (.str [116,114,117,101])]] [40,41]) (.cond (.T 42) [4] (.g [.m 4 (.i 1)] []) [] .skip))
 (.seq (.g [.m 43 (.t 4),.f 44 3 (.t 3),.l 45 1 (.t 44),
 .o 46 (.build [.i 0,.i 0,.str [],.str [],.i 0,.U,.i 0,.i 0,.i 0,.i 0,.i 0] [(0,1),(1,1),(6,1)]) [.i 2,.t 43,.t 45],
 .n (.ai 0 11) [.t 2,.T 46]] [3,4,43,44,45]) .ret)))) [] (.seq (.g [.m 48 (.t 0),
 .c 49 17 [.t 48,.const (.str [110,117,108,108])],.m 47 (.t 49)] [48,49]) (.cond (.T 47) [] (.seq (.g [.m 50 (.t 0),
 .o 51 .nilCheck [.t 50],.f 52 1 (.T 51),.d 53 (.T 52),.o 54 (.aR .add) [.t 53,.i 1],
 .o 55 .nilCheck [.t 50],.f 56 1 (.T 55),.n (.store 1) [.T 56,.t 54]] [50,53,54]) (.seq (.r [.m 57 (.t 0),
 .c 58 34 [.t 57],.f 59 3 (.t 3),.l 60 1 (.t 59),
 .o 61 (.build [.i 0,.i 0,.str [],.str [],.i 0,.U,.i 0,.i 0,.i 0,.i 0,.i 0] [(0,1),(3,2),(6,1)]) [.i 3,.t 58,.t 60],
 .n (.ai 0 11) [.t 2,.T 61]] (some []) [0,3,57,58,59,60]) .ret)) [] (.seq (.g [.m 63 (.t 0),
 .c 64 17 [.t 63,.const (.str [110,101,119])],.m 62 (.t 64)] [63,64]) (.cond (.T 62) [] (.seq (.g [.m 65 (.t 0),
 .o 66 .nilCheck [.t 65],.f 67 1 (.T 66),.d 68 (.T 67),.o 69 (.aR .add) [.t 68,.i 1],
 .o 70 .nilCheck [.t 65],.f 71 1 (.T 70),.n (.store 1) [.T 71,.t 69]] [65,68,69]) (.seq (.g [.m 72 (.t 0),
 .f 73 3 (.t 3),.l 74 1 (.t 73),.c 75 99 [.t 72,.t 74],.n (.ai 0 11) [.t 2,.T 75]] [0,3,72,73,74])
 .ret)) [] (.seq (.g [.m 77 (.t 0),.c 78 17 [.t 77,.const (.str [108,101,110])],.m 76 (.t 78)] [77,78]) (.cond (.T 76) []
 (.seq (.g [.m 79 (.t 0),.o 80 .nilCheck [.t 79],.f 81 1 (.T 80),.d 82 (.T 81),
 .o 83 (.aR .add) [.t 82,.i 1],.o 84 .nilCheck [.t 79],.f 85 1 (.T 84),.n (.store 1) [.T 85,.t 83]] [79,82,83]) (.seq
 (.r [.m 86 (.t 0),.c 87 100 [.t 86],
 .o 88 (.lit 11 1 [.i 0,.i 0,.str [],.str [],.i 0,.U,.i 0,.i 0,.i 0,.i 0,.i 0] [0]) [.T 87],
 .f 89 3 (.t 3),.l 90 1 (.t 89),
 .o 91 (.build [.i 0,.i 0,.str [],.str [],.i 0,.U,.i 0,.i 0,.i 0,.i 0,.i 0] [(0,1),(5,1),(6,1)]) [.i 10,.T 88,.t 90],
 .n (.ai 0 11) [.t 2,.T 91]] (some []) [0,3,86,89,90]) .ret)) [] (.seq (.g [.m 93 (.t 0),
 .c 94 17 [.t 93,.const (.str [114,101,97,100])],.m 92 (.t 94)] [93,94]) (.cond (.T 92) [] (.seq (.g [.m 95 (.t 0),
 .o 96 .nilCheck [.t 95],.f 97 1 (.T 96),.d 98 (.T 97),.o 99 (.aR .add) [.t 98,.i 1],
 .o 100 .nilCheck [.t 95],.f 101 1 (.T 100),.n (.store 1) [.T 101,.t 99]] [95,98,99]) (.seq (.g [.m 102 (.t 0),
 .c 103 54 [.t 102,.const (.str [40])]] [102,103]) (.seq (.g [.m 104 (.t 0),
 .c 105 56 [.t 104,.const (.str [41])]] [0,104,105]) (.seq (.g [.f 106 3 (.t 3),.l 107 1 (.t 106),
 .o 108 (.build [.i 0,.i 0,.str [],.str [],.i 0,.U,.i 0,.i 0,.i 0,.i 0,.i 0] [(0,1),(6,1)]) [.i 11,.t 107],
 .n (.ai 0 11) [.t 2,.T 108]] [3,106,107]) .ret)))) [] (.seq (.g [.m 110 (.t 0),.c 111 17 [.t 110,.const (.str [40])],
 .m 109 (.t 111)] [110,111]) (.cond (.T 109) [3] (.seq (.g [.m 112 (.t 0),.c 113 100 [.t 112],
 .n (.ai 0 11) [.t 2,.T 113]] [0,112]) .ret) [] .skip))))))))))))))) (.seq (.g [.m 114 (.t 0),.c 115 33 [.t 114],
 .m 5 (.t 115)] [114,115]) (.seq (.seq (.g [.m 116 (.t 0),.c 117 17 [.t 116,.const (.str [40])],
 .o 118 (.un .not) [.t 117]] [116,117]) (.cond (.T 118) [0] (.seq (.g [.m 119 (.t 5),.f 120 3 (.t 3),
 .l 121 1 (.t 120),
 .o 122 (.build [.i 0,.i 0,.str [],.str [],.i 0,.U,.i 0,.i 0,.i 0,.i 0,.i 0] [(0,1),(2,1),(6,1)]) [.i 4,.t 119,.t 121],
 .n (.ai 0 11) [.t 2,.T 122]] [3,5,119,120,121]) .ret) [] .skip)) (.seq (.r [.m 123 (.t 5),.m 124 (.t 0),
 .c 125 101 [.t 124],.f 126 3 (.t 3),.l 127 1 (.t 126),
 .o 128 (.build [.i 0,.i 0,.str [],.str [],.i 0,.U,.i 0,.i 0,.i 0,.i 0,.i 0] [(0,1),(2,1),(5,1),(6,1)]) [.i 7,.t 123,.T 125,.t 127],
 .n (.ai 0 11) [.t 2,.T 128]] (some []) [0,3,5,123,124,126,127]) .ret)))))) }
def s95:aD:={ fV:=95,mode:=.l9,aF:=2,aP:=3,dM:=[],results:=[.box 4 1 3 true,.tmp 5 false,.tmp 6 false],body:=
 (.seq (.g [.o 3 (.gq 0 11) [.T 1],.o 4 (.aH 1 [.i 0,.i 0,.i 0]) [],.m 5 (.i 0),
 .m 6 (.b false)] [5,6]) (.seq (.g [.f 10 5 (.t 3),.l 11 0 (.t 10),
 .o 12 (.indexAddr 11) [.T 11,.i 0],.f 13 7 (.T 12),.o 14 (.load true 3 false) [.T 13],
 .o 7 (.aH 2 [.i 0,.i 0,.i 0]) [],.n (.ai 2 3) [.t 7,.t 14]] [10,14]) (.seq (.seq (.g [.f 15 0 (.t 7),
 .l 16 2 (.t 15),.o 17 (.aR .neq) [.t 16,.i 3],.m 18 (.t 17),.z 19 (.fieldAddr 2) [.t 7] 18,
 .z 20 (.aE 2 false 1 false) [.t 19] 18,.z 21 (.aR .neq) [.t 20,.i 0] 18,
 .o 22 .pick [.t 18,.b true,.t 21]] [15,16,17,18,19,20,21]) (.cond (.T 22) [0,3,7] (.seq (.g [.c 23 71 [],
 .n (.ai 1 3) [.t 4,.t 23],.m 5 (.i 0),.m 6 (.b false)] [23]) .ret) [] .skip)) (.seq (.r [
 .m 24 (.t 0),.o 25 .nilCheck [.t 24],.f 26 0 (.T 25),.f 27 0 (.T 26),.d 28 (.T 27),
 .f 29 1 (.t 7),.l 30 2 (.t 29),.o 31 (.indexAddr 2) [.T 28,.t 30],.f 32 1 (.T 31),
 .d 33 (.T 32),.m 8 (.T 33)] (some []) [0,7,24,29,30]) (.seq (.g [.m 34 (.t 8),.f 35 2 (.t 3),
 .l 36 0 (.t 35),.c 37 98 [.T 34,.t 36],.m 9 (.t 37)] [3,35,36,37]) (.seq (.seq (.g [.m 38 (.t 9),
 .o 39 (.aR .lss) [.t 38,.i 0]] [38]) (.cond (.T 39) [8,9] (.seq (.g [.c 40 71 [],.n (.ai 1 3) [.t 4,.t 40],
 .m 5 (.i 0),.m 6 (.b false)] [40]) .ret) [] .skip)) (.seq (.g [.m 41 (.T 8),.m 42 (.t 9),
 .o 43 (.indexAddr 4) [.T 41,.t 42],.f 44 1 (.T 43),.o 45 (.load true 3 false) [.T 44],.m 46 (.t 9),.n (.ai 1 3) [.t 4,.t 45],
 .m 5 (.t 46),.m 6 (.b true)] [9,42,45,46]) .ret))))))) }
def QX:bQ:=
 (.seq (.g [.o 47 (.aR .lss) [.t 46,.t 45]] []) (.seq (.cond (.T 47) [] .skip [3,44,45,46] (.exit 0)) (.seq (.block 1 (.seq (.g [
 .m 48 (.t 46),.o 49 (.indexAddr 4) [.t 44,.t 46],.o 50 (.load true 4 false) [.T 49],
 .o 9 (.aH 1 [.str [],.i 0,.i 0,.i 0]) [],.m 8 (.t 48),.n (.ai 1 4) [.t 9,.t 50]] [48,50]) (.seq (.r [
 .f 51 5 (.t 3),.d 52 (.T 51),.m 53 (.t 8),.o 54 (.indexAddr 11) [.T 52,.t 53],.f 55 7 (.T 54),
 .o 56 (.load true 3 false) [.T 55],.f 57 1 (.t 9),.o 58 (.aE 1 true 3 false) [.t 57],
 .o 59 (.Ai (.flat [.int,.int,.int]) true) [.t 56,.t 58]] (some []) [8,9,53,56,57,58]) (.cond (.T 59) [0,3,7,44,45,46] (.seq (.g [.c 60 71 [],
 .n (.ai 0 3) [.t 4,.t 60],.m 5 (.i 0),.m 6 (.b false)] [60]) .ret) [] .skip)))) (.g [
 .o 61 (.aR .add) [.t 46,.i 1],.m 46 (.t 61)] [61]))))
def s96:aD:={ fV:=96,mode:=.l9,aF:=2,aP:=2,dM:=[],results:=[.box 4 0 3 true,.tmp 5 false,.tmp 6 false],body:=
 (.seq (.g [.o 3 (.box 11) [.T 1],.o 4 (.aH 0 [.i 0,.i 0,.i 0]) [],.m 5 (.i 0),
 .m 6 (.b false)] [5,6]) (.seq (.g [.m 10 (.t 0),.o 11 .nilCheck [.t 10],.f 12 0 (.T 11),
 .f 13 2 (.T 12),.d 14 (.T 13),.o 15 (.makeFunc 102 0) [.t 3],.c 16 39 [.T 14,.t 15],
 .m 7 (.t 16)] [10,15,16]) (.seq (.seq (.r [.m 17 (.t 7),.o 18 (.aR .lss) [.t 17,.i 0],.m 19 (.t 18),
 .z 20 .move [.t 0] 19,.z 21 .nilCheck [.t 20] 19,.z 22 (.fieldAddr 0) [.T 21] 19,.z 23 (.fieldAddr 2) [.T 22] 19,.z 24 (.load false 1 false) [.T 23] 19,
 .z 25 .move [.t 7] 19,.z 26 (.indexAddr 6) [.T 24,.t 25] 19,.z 27 (.fieldAddr 1) [.T 26] 19,.z 28 (.load false 1 false) [.T 27] 19,
 .z 29 (.len .sl) [.T 28] 19,.z 30 (.fieldAddr 5) [.t 3] 19,.z 31 (.load false 1 false) [.T 30] 19,.z 32 (.len .sl) [.T 31] 19,
 .z 33 (.aR .neq) [.t 29,.t 32] 19,.o 34 .pick [.t 19,.b true,.t 33]] (some []) [17,18,19,20,21,22,23,24,25,26,27,28,29,30,31,32,33])
 (.cond (.T 34) [0,3,7] (.seq (.g [.c 35 71 [],.n (.ai 0 3) [.t 4,.t 35],.m 5 (.i 0),
 .m 6 (.b false)] [35]) .ret) [] .skip)) (.seq (.seq (.g [.m 36 (.t 0),.o 37 .nilCheck [.t 36],
 .f 38 0 (.T 37),.f 39 2 (.T 38),.d 40 (.T 39),.m 41 (.t 7),.o 42 (.indexAddr 6) [.T 40,.t 41],
 .f 43 1 (.T 42),.d 44 (.T 43),.o 45 (.len .sl) [.t 44],.m 46 (.i 0)] [36,41]) (.block 0
 (.loop QX))) (.seq (.g [.m 62 (.t 0),.o 63 .nilCheck [.t 62],.f 64 0 (.T 63),.f 65 2 (.T 64),
 .d 66 (.T 65),.m 67 (.t 7),.o 68 (.indexAddr 6) [.T 66,.t 67],.f 69 3 (.T 68),.o 70 (.load true 3 false) [.T 69],
 .m 71 (.t 7),.n (.ai 0 3) [.t 4,.t 70],.m 5 (.t 71),.m 6 (.b true)] [0,7,62,67,70,71]) .ret))))) }
def Ox:aD:={ fV:=97,mode:=.l9,aF:=2,aP:=4,dM:=[0],results:=[.box 4 1 3 true,.tmp 5 false,.tmp 6 false],body:=
 (.seq (.g [.o 3 (.gq 0 11) [.T 1],.o 4 (.aH 1 [.i 0,.i 0,.i 0]) [],.m 5 (.i 0),
 .m 6 (.b false)] [5,6]) (.seq (.r [.f 9 5 (.t 3),.l 10 0 (.t 9),
 .o 11 (.indexAddr 11) [.T 10,.i 0],.f 12 7 (.T 11),.o 13 (.load true 3 false) [.T 12],.f 14 5 (.t 3),
 .l 15 0 (.t 14),.o 16 (.indexAddr 11) [.T 15,.i 1],.f 17 7 (.T 16),.o 18 (.load true 3 false) [.T 17],
 .o 7 (.aH 2 [.i 0,.i 0,.i 0]) [],.o 8 (.aH 3 [.i 0,.i 0,.i 0]) [],.n (.ai 2 3) [.t 7,.t 13],
 .n (.ai 3 3) [.t 8,.t 18]] (some []) [9,13,14,18]) (.seq (.seq (.g [.f 19 0 (.t 3),
 .l 20 0 (.t 19)] [3,19]) (.block 0 (.seq (.seq (.g [.o 22 (.aR .eql) [.t 20,.i 14],
 .m 21 (.t 22)] [22]) (.cond (.t 21) [] .skip [21] (.seq (.g [.o 23 (.aR .eql) [.t 20,.i 15],.m 21 (.t 23)] [23])
 (.cond (.t 21) [] .skip [21] (.seq (.g [.o 24 (.aR .eql) [.t 20,.i 16],.m 21 (.t 24)] [24]) (.cond (.t 21) [] .skip [21]
 (.seq (.g [.o 25 (.aR .eql) [.t 20,.i 17],.m 21 (.t 25)] [25]) (.cond (.t 21) [] .skip [21] (.g [
 .o 26 (.aR .eql) [.t 20,.i 18],.m 21 (.t 26)] [26]))))))))) (.cond (.T 21) [20] (.seq (.r [.c 27 91 [],
 .o 28 (.aE 2 true 3 false) [.t 7],.c 29 91 [],.o 30 (.Ai (.flat [.int,.int,.int]) false) [.t 28,.t 29],.m 31 (.t 30),
 .y 32 (.aE 3 true 3 false) [.t 8] 31,.y 33 (.call 91) [] 31,.y 34 (.Ai (.flat [.int,.int,.int]) false) [.t 32,.t 33] 31,
 .o 35 .pick [.t 31,.t 34,.b false],.n (.ai 1 3) [.t 4,.t 27],.m 5 (.i 0),
 .m 6 (.t 35)] (some []) [7,8,27,28,29,30,31,32,33,34,35]) .ret) [] (.seq (.seq (.g [.o 37 (.aR .eql) [.t 20,.i 19],
 .m 36 (.t 37)] [37]) (.cond (.t 36) [] .skip [36] (.g [.o 38 (.aR .eql) [.t 20,.i 20],.m 36 (.t 38)] [38])))
 (.cond (.T 36) [20] (.seq (.r [.c 39 90 [],.o 40 (.aE 2 true 3 false) [.t 7],.c 41 91 [],
 .o 42 (.Ai (.flat [.int,.int,.int]) false) [.t 40,.t 41],.m 43 (.t 42),.y 44 (.aE 3 true 3 false) [.t 8] 43,.y 45 (.call 91) [] 43,
 .y 46 (.Ai (.flat [.int,.int,.int]) false) [.t 44,.t 45] 43,.o 47 .pick [.t 43,.t 46,.b false],.n (.ai 1 3) [.t 4,.t 39],
 .m 5 (.i 0),.m 6 (.t 47)] (some []) [7,8,39,40,41,42,43,44,45,46,47]) .ret) [] (.seq (.seq (.g [
 .o 49 (.aR .eql) [.t 20,.i 21],.m 48 (.t 49)] [49]) (.cond (.t 48) [20] .skip [48] (.g [
 .o 50 (.aR .eql) [.t 20,.i 22],.m 48 (.t 50)] [20,50]))) (.cond (.T 48) [] (.seq (.r [.c 51 90 [],
 .o 52 (.aE 2 true 3 false) [.t 7],.o 53 (.aE 3 true 3 false) [.t 8],.o 54 (.Ai (.flat [.int,.int,.int]) false) [.t 52,.t 53],
 .n (.ai 1 3) [.t 4,.t 51],.m 5 (.i 0),.m 6 (.t 54)] (some []) [7,8,51,52,53,54]) .ret) [] .skip)))))))) (.seq (.r [
 .c 55 90 [],.o 56 (.aE 2 true 3 false) [.t 7],.c 57 90 [],.o 58 (.Ai (.flat [.int,.int,.int]) false) [.t 56,.t 57],
 .m 59 (.t 58),.y 60 (.aE 3 true 3 false) [.t 8] 59,.y 61 (.call 90) [] 59,.y 62 (.Ai (.flat [.int,.int,.int]) false) [.t 60,.t 61] 59,
 .o 63 .pick [.t 59,.t 62,.b false],.n (.ai 1 3) [.t 4,.t 55],.m 5 (.i 0),
 .m 6 (.t 63)] (some []) [7,8,55,56,57,58,59,60,61,62,63]) .ret)))) }
def s98:aD:={ fV:=98,mode:=.pure,aF:=2,aP:=0,dM:=[],results:=[.tmp 4 false],body:=
 (.seq (.g [.o 3 (.box 1) [.t 1],.m 4 (.i 0)] [1,4]) (.seq (.g [.m 5 (.T 0),.o 6 (.makeFunc 104 0) [.T 3],
 .c 7 103 [.T 5,.t 6],.m 4 (.t 7)] [6,7]) .ret)) }
def s99:aD:={ fV:=99,mode:=.l9,aF:=2,aP:=2,dM:=[],results:=[.box 4 0 11 true],body:=
 (.seq (.g [
 .o 4 (.aH 0 [.i 0,.i 0,.str [],.str [],.i 0,.U,.i 0,.i 0,.i 0,.i 0,.i 0]) []] []) (.seq
 (.seq (.g [.m 6 (.t 0),.c 7 17 [.t 6,.const (.str [91])],.o 8 (.un .not) [.t 7]] [6,7]) (.cond (.T 8) [] (.seq (.g [
 .m 9 (.t 0),.c 10 33 [.t 9],.o 11 (.build [.str [],.i 0] [(0,1)]) [.t 10],.m 12 (.t 1),
 .o 13 (.build [.i 0,.i 0,.str [],.str [],.i 0,.U,.i 0,.i 0,.i 0,.i 0,.i 0] [(0,1),(3,2),(6,1)]) [.i 8,.t 11,.t 12],
 .n (.ai 0 11) [.t 4,.T 13]] [0,1,9,10,11,12]) .ret) [] .skip)) (.seq (.g [.m 14 (.t 0),.o 15 .nilCheck [.t 14],
 .f 16 1 (.T 15),.d 17 (.T 16),.o 18 (.aR .add) [.t 17,.i 1],.o 19 .nilCheck [.t 14],
 .f 20 1 (.T 19),.n (.store 1) [.T 20,.t 18]] [14,17,18]) (.seq (.g [.m 21 (.t 0),.c 22 34 [.t 21],
 .o 5 (.aH 1 [.str [],.i 0]) [],.n (.ai 1 2) [.t 5,.t 22]] [21,22]) (.seq (.g [.m 23 (.t 0),
 .c 24 21 [.t 23,.const (.str [93])]] [23,24]) (.seq (.r [.o 25 (.aE 1 true 2 false) [.t 5],.m 26 (.t 0),
 .c 27 100 [.t 26],
 .o 28 (.lit 11 1 [.i 0,.i 0,.str [],.str [],.i 0,.U,.i 0,.i 0,.i 0,.i 0,.i 0] [0]) [.T 27],
 .m 29 (.t 1),
 .o 30 (.build [.i 0,.i 0,.str [],.str [],.i 0,.U,.i 0,.i 0,.i 0,.i 0,.i 0] [(0,1),(3,2),(5,1),(6,1)]) [.i 9,.t 25,.T 28,.t 29],
 .n (.ai 0 11) [.t 4,.T 30]] (some []) [0,1,5,25,26,29]) .ret)))))) }
def YW:aD:={ fV:=100,mode:=.l9,aF:=1,aP:=2,dM:=[],results:=[.box 2 0 11 true],body:=
 (.seq (.g [
 .o 2 (.aH 0 [.i 0,.i 0,.str [],.str [],.i 0,.U,.i 0,.i 0,.i 0,.i 0,.i 0]) []] []) (.seq
 (.g [.m 4 (.t 0),.c 5 54 [.t 4,.const (.str [40])]] [4,5]) (.seq (.g [.m 6 (.t 0),
 .c 7 67 [.t 6,.i 0],
 .o 3 (.aH 1 [.i 0,.i 0,.str [],.str [],.i 0,.U,.i 0,.i 0,.i 0,.i 0,.i 0]) [],
 .n (.ai 1 11) [.t 3,.T 7]] [6]) (.seq (.g [.m 8 (.t 0),.c 9 56 [.t 8,.const (.str [41])]] [0,8,9]) (.seq (.g [
 .o 10 (.aE 1 true 11 false) [.t 3],.n (.ai 0 11) [.t 2,.T 10]] [3]) .ret))))) }
def LU:bQ:=
 (.seq (.seq (.g [.m 15 (.t 0),.c 16 17 [.t 15,.const (.str [44])]] [15]) (.cond (.T 16) [] .skip [] (.exit 0))) (.block 1 (.seq
 (.g [.m 17 (.t 0),.o 18 .nilCheck [.t 17],.f 19 1 (.T 18),.d 20 (.T 19),
 .o 21 (.aR .add) [.t 20,.i 1],.o 22 .nilCheck [.t 17],.f 23 1 (.T 22),.n (.store 1) [.T 23,.t 21]] [17,20,21])
 (.g [.m 24 (.T 3),.m 25 (.t 0),.c 26 67 [.t 25,.i 0],
 .o 27 (.lit 11 1 [.i 0,.i 0,.str [],.str [],.i 0,.U,.i 0,.i 0,.i 0,.i 0,.i 0] [0]) [.T 26],
 .o 28 (.append 11 120) [.T 24,.T 27],.m 3 (.T 28)] [25]))))
def U6:aD:={ fV:=101,mode:=.l9,aF:=1,aP:=0,dM:=[],results:=[.tmp 2 true],body:=
 (.seq (.g [.o 2 .move [.const .U]] [2]) (.seq (.g [.o 3 .move [.const .U]] []) (.seq (.g [.m 4 (.t 0),
 .c 5 54 [.t 4,.const (.str [40])]] [4,5]) (.seq (.seq (.g [.m 6 (.t 0),.c 7 17 [.t 6,.const (.str [41])]] [6])
 (.cond (.T 7) [3] (.seq (.g [.m 8 (.t 0),.c 9 56 [.t 8,.const (.str [41])]] [0,8,9]) (.seq (.g [
 .o 2 .move [.const .U]] []) .ret)) [] .skip)) (.seq (.g [.m 10 (.T 3),.m 11 (.t 0),.c 12 67 [.t 11,.i 0],
 .o 13 (.lit 11 1 [.i 0,.i 0,.str [],.str [],.i 0,.U,.i 0,.i 0,.i 0,.i 0,.i 0] [0]) [.T 12],
 .o 14 (.append 11 120) [.T 10,.T 13],.m 3 (.T 14)] [11]) (.seq (.block 0 (.loop LU)) (.seq (.g [.m 29 (.t 0),
 .c 30 56 [.t 29,.const (.str [41])]] [0,29,30]) (.seq (.g [.m 31 (.T 3),.m 2 (.T 31)] []) .ret)))))))) }
def YX:aD:={ fV:=102,mode:=.l9,aF:=2,aP:=1,dM:=[],results:=[.tmp 3 false],body:=
 (.seq (.g [.o 2 (.gq 0 6) [.T 0],.m 3 (.b false)] [3]) (.seq (.g [.f 4 0 (.t 2),
 .l 5 0 (.t 4),.f 6 2 (.T 1),.d 7 (.T 6),.o 8 (.aR .eql) [.t 5,.t 7],
 .m 3 (.t 8)] [2,4,5,7,8]) .ret)) }
def LW:bQ:=
 (.seq (.g [.o 9 (.aR .lss) [.t 8,.t 7]] []) (.seq (.cond (.T 9) [] .skip [0,1,7,8] (.exit 0)) (.seq (.block 1 (.seq (.g [.m 10 (.t 8),
 .m 5 (.t 10)] [10]) (.seq (.g [.m 11 (.t 1),.m 12 (.t 0),.m 13 (.t 5),.o 14 (.indexAddr 4) [.T 12,.t 13],
 .o 15 (.load true 4 false) [.T 14],.o 16 .pz [.t 11,.t 15]] [11,13,15]) (.cond (.T 16) [0,1,7,8] (.seq (.g [.m 17 (.t 5),
 .m 4 (.t 17)] [5,17]) .ret) [5] .skip)))) (.g [.o 18 (.aR .add) [.t 8,.i 1],.m 8 (.t 18)] [18]))))
def YY:aD:={ fV:=103,mode:=.l9,aF:=2,aP:=0,dM:=[],results:=[.tmp 4 false],body:=
 (.seq (.g [.m 4 (.i 0)] [4]) (.seq (.seq (.g [.m 6 (.t 0),.o 7 (.len .sl) [.T 6],
 .m 8 (.i 0)] []) (.block 0 (.loop LW))) (.seq (.g [.o 4 .move [.const (.i (-1))]] []) .ret))) }
def YZ:aD:={ fV:=104,mode:=.l9,aF:=2,aP:=1,dM:=[],results:=[.tmp 3 false],body:=
 (.seq (.g [.o 2 (.gq 0 4) [.t 0],.m 3 (.b false)] [0,3]) (.seq (.g [.f 4 0 (.t 2),
 .l 5 0 (.t 4),.d 6 (.T 1),.o 7 (.aR .eql) [.t 5,.t 6],.m 3 (.t 7)] [2,4,5,6,7]) .ret)) }
def Tr:List (Option aD):=[none,none,none,none,some s4,none,none,some s7,some s8,some s9,some s10,some s11,some s12,some s13,some s14,some s15,some s16,some s17,some s18,some s19,some s20,some s21,some YR,some s23,some s24,some s25,some s26,some s27,some YS,some s29,some s30,some s31,some Ke,some s33,some s34,some s35,some s36,some s37,some s38,some s39,some s40,some s41,some s42,some W0,some s44,some H6,some FB,some YT,some s48,some s49,some YU,some s51,some s52,some s53,some s54,some QO,some s56,some s57,some s58,some kX,some s60,some s61,some s62,some s63,some s64,some W3,some s66,some s67,some W4,some s69,some Ki,some s71,some yQ,some s73,some U5,some s75,some wZ,some s77,some s78,some s79,some s80,some s81,some s82,some W5,some El,some QV,some tj,some W6,some s88,some s89,some s90,some s91,some s92,some s93,some Co,some s95,some s96,some Ox,some s98,some s99,some YW,some U6,some YX,some YY,some YZ,none,none,none,none,none,none,none,none,none,none,none,none,none,none,none,none]
def EY:List (Option aD):=[]
def S:Nat->Option aD:=OM Tr EY
end cz
