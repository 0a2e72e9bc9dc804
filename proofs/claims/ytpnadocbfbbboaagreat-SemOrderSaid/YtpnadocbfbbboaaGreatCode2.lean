/- The annotated code of the loaded program,printed by wip/tools/gen.py. -/
import Derived.Test.YtpnadocbfbbboaaGreatCode1

set_option maxRecDepth 100000
namespace Code11
open Ax Go
def s141:SFunc:={ fid:=141,mode:=.scp,nparams:=2,nboxes:=8,clr:=[],results:=[.box 4 1 3 true,.tmp 5 false,.tmp 6 false],body:=
 (.seq (.g [.o 3 (.boxF 0 11) [.T 1],.o 4 (.allocF 1 [.i 0,.i 0,.i 0]) [],.m 5 (.i 0),
 .m 6 (.b false)] [5,6]) (.seq (.seq (.g [.f 19 0 (.t 3),.l 20 0 (.t 19)] [19])
 (.block 0 (.seq (.seq (.g [.o 22 (.bin .eql) [.t 20,.i 1],.m 21 (.t 22)] [22]) (.cond (.t 21) [] .skip [21] (.g [
 .o 23 (.bin .eql) [.t 20,.i 11],.m 21 (.t 23)] [23]))) (.cond (.T 21) [0,3,20] (.seq (.g [.c 24 146 [],
 .n (.storeF 1 3) [.t 4,.t 24],.m 5 (.i 0),.m 6 (.b true)] [24]) .ret) [] (.seq (.g [
 .o 26 (.bin .eql) [.t 20,.i 2],.m 25 (.t 26)] [26]) (.cond (.T 25) [0,3,20] (.seq (.g [.c 27 145 [],
 .n (.storeF 1 3) [.t 4,.t 27],.m 5 (.i 0),.m 6 (.b true)] [27]) .ret) [] (.seq (.g [
 .o 29 (.bin .eql) [.t 20,.i 3],.m 28 (.t 29)] [29]) (.cond (.T 28) [20] (.seq (.r [.m 31 (.t 0),
 .o 32 .nilCheck [.t 31],.f 33 4 (.T 32),.d 34 (.T 33),.f 35 3 (.t 3),
 .o 36 (.loadF 0 true 2 false) [.t 35],.c 37 116 [.T 34,.t 36],.m 30 (.T 37),.o 38 (.extract 0) [.t 30],.o 39 (.extract 1) [.t 30],
 .o 7 (.allocF 2 [.i 0,.i 0,.i 0]) [],.n (.storeF 2 3) [.t 7,.t 38],.m 8 (.t 39)] (some []) [0,3,30,31,35,36,38,39]) (.seq
 (.r [.o 40 (.loadF 2 true 3 false) [.t 7],.m 41 (.t 8),.m 42 (.t 41),.y 43 (.loadF 2 true 3 false) [.t 7] 42,
 .y 44 (.call 164) [.t 43] 42,.o 45 .pick [.t 42,.t 44,.b false],.n (.storeF 1 3) [.t 4,.t 40],.m 5 (.i 0),
 .m 6 (.t 45)] (some []) [7,8,40,41,42,43,44,45]) .ret)) [] (.seq (.g [.o 47 (.bin .eql) [.t 20,.i 4],
 .m 46 (.t 47)] [47]) (.cond (.T 46) [20] (.seq (.g [.m 49 (.t 0),.f 50 2 (.t 3),.l 51 0 (.t 50),
 .c 52 144 [.t 49,.t 51],.m 48 (.T 52),.o 53 (.extract 0) [.t 48],.o 54 (.extract 1) [.t 48],.o 55 (.extract 2) [.T 48],
 .o 10 (.allocF 3 [.i 0,.i 0,.i 0]) [],.m 9 (.t 53),.n (.storeF 3 3) [.t 10,.t 54],
 .m 11 (.t 55)] [0,3,49,50,51,53,54,55]) (.seq (.g [.o 56 (.loadF 3 true 3 false) [.t 10],.m 57 (.t 9),.m 58 (.t 11),
 .n (.storeF 1 3) [.t 4,.t 56],.m 5 (.t 57),.m 6 (.t 58)] [9,10,11,56,57,58]) .ret)) [] (.seq (.g [
 .o 60 (.bin .eql) [.t 20,.i 5],.m 59 (.t 60)] [60]) (.cond (.T 59) [20] (.seq (.g [.m 61 (.t 0),
 .o 62 (.loadF 0 true 11 false) [.t 3],.c 63 165 [.t 61,.T 62],.o 64 (.extract 0) [.t 63],.o 65 (.extract 1) [.t 63],.o 66 (.extract 2) [.T 63],
 .n (.storeF 1 3) [.t 4,.t 64],.m 5 (.t 65),.m 6 (.t 66)] [0,3,61,64,65,66]) .ret) [] (.seq (.g [
 .o 68 (.bin .eql) [.t 20,.i 6],.m 67 (.t 68)] [68]) (.cond (.T 67) [0,20] (.seq (.g [.f 69 5 (.t 3),
 .l 70 0 (.t 69),.o 71 (.indexAddr 11) [.T 70,.i 0],.f 72 7 (.T 71),.o 73 (.load true 3 false) [.T 72],
 .o 12 (.allocF 4 [.i 0,.i 0,.i 0]) [],.n (.storeF 4 3) [.t 12,.t 73]] [69,73]) (.seq (.r [.f 74 2 (.t 12),
 .l 75 4 (.t 74),.o 76 (.bin .gtr) [.t 75,.i 0],.m 77 (.t 76),.y 78 (.fieldAddr 5) [.t 3] 77,
 .y 79 (.loadF 0 false 1 false) [.t 78] 77,.y 80 (.indexAddr 11) [.T 79,.i 1] 77,.y 81 (.fieldAddr 7) [.T 80] 77,
 .y 82 (.load true 3 false) [.T 81] 77,.y 83 (.call 146) [] 77,.y 84 (.eqv (.flat [.int,.int,.int]) false) [.t 82,.t 83] 77,
 .o 85 .pick [.t 77,.t 84,.b false],.m 13 (.t 85)] (some []) [3,74,75,76,77,78,79,80,81,82,83,84,85]) (.seq (.g [
 .f 86 2 (.t 12),.l 87 4 (.t 86),.o 88 (.bin .sub) [.t 87,.i 1],.f 89 2 (.t 12),
 .n (.storeF 4 1) [.t 89,.t 88]] [86,87,88,89]) (.seq (.g [.o 90 (.loadF 4 true 3 false) [.t 12],.m 91 (.t 13),
 .n (.storeF 1 3) [.t 4,.t 90],.m 5 (.i 0),.m 6 (.t 91)] [12,13,90,91]) .ret)))) [] (.seq (.g [
 .o 93 (.bin .eql) [.t 20,.i 7],.m 92 (.t 93)] [93]) (.cond (.T 92) [20] (.seq (.g [.m 94 (.t 0),
 .o 95 (.loadF 0 true 11 false) [.t 3],.c 96 166 [.t 94,.T 95],.o 97 (.extract 0) [.t 96],.o 98 (.extract 1) [.t 96],.o 99 (.extract 2) [.T 96],
 .n (.storeF 1 3) [.t 4,.t 97],.m 5 (.t 98),.m 6 (.t 99)] [0,3,94,97,98,99]) .ret) [] (.seq (.g [
 .o 101 (.bin .eql) [.t 20,.i 8],.m 100 (.t 101)] [101]) (.cond (.T 100) [20] (.seq (.r [.m 103 (.t 0),
 .o 104 .nilCheck [.t 103],.f 105 4 (.T 104),.d 106 (.T 105),.f 107 3 (.t 3),
 .o 108 (.loadF 0 true 2 false) [.t 107],.c 109 116 [.T 106,.t 108],.m 102 (.T 109),.o 110 (.extract 0) [.t 102],
 .o 111 (.extract 1) [.t 102],.o 14 (.allocF 5 [.i 0,.i 0,.i 0]) [],.n (.storeF 5 3) [.t 14,.t 110],
 .m 15 (.t 111)] (some []) [0,3,102,103,107,108,110,111]) (.seq (.r [.o 112 (.loadF 5 true 3 false) [.t 14],.m 113 (.t 15),
 .m 114 (.t 113),.y 115 (.fieldAddr 0) [.t 14] 114,.y 116 (.loadF 5 false 1 false) [.t 115] 114,.y 117 (.bin .eql) [.t 116,.i 3] 114,
 .o 118 .pick [.t 114,.t 117,.b false],.m 119 (.t 118),.y 120 (.fieldAddr 2) [.t 14] 119,.y 121 (.loadF 5 false 1 false) [.t 120] 119,
 .y 122 (.bin .eql) [.t 121,.i 0] 119,.o 123 .pick [.t 119,.t 122,.b false],.n (.storeF 1 3) [.t 4,.t 112],
 .m 5 (.i 0),.m 6 (.t 123)] (some []) [14,15,112,113,114,115,116,117,118,119,120,121,122,123]) .ret)) [] (.seq (.g [
 .o 125 (.bin .eql) [.t 20,.i 9],.m 124 (.t 125)] [125]) (.cond (.T 124) [20] (.seq (.r [.m 127 (.t 0),
 .o 128 .nilCheck [.t 127],.f 129 4 (.T 128),.d 130 (.T 129),.f 131 3 (.t 3),
 .o 132 (.loadF 0 true 2 false) [.t 131],.c 133 116 [.T 130,.t 132],.m 126 (.T 133),.o 134 (.extract 0) [.t 126],
 .o 135 (.extract 1) [.t 126],.o 16 (.allocF 6 [.i 0,.i 0,.i 0]) [],.n (.storeF 6 3) [.t 16,.t 134],
 .m 17 (.t 135)] (some []) [0,126,127,131,132,134,135]) (.seq (.r [.m 136 (.t 17),.m 137 (.t 136),.y 138 (.fieldAddr 2) [.t 16] 137,
 .y 139 (.loadF 6 false 1 false) [.t 138] 137,.y 140 (.bin .lss) [.t 139,.i 3] 137,.o 141 .pick [.t 137,.t 140,.b false],
 .m 142 (.t 141),.y 143 (.fieldAddr 5) [.t 3] 142,.y 144 (.loadF 0 false 1 false) [.t 143] 142,
 .y 145 (.indexAddr 11) [.T 144,.i 0] 142,.y 146 (.fieldAddr 7) [.T 145] 142,.y 147 (.load true 3 false) [.T 146] 142,
 .y 148 (.call 146) [] 142,.y 149 (.eqv (.flat [.int,.int,.int]) false) [.t 147,.t 148] 142,.o 150 .pick [.t 142,.t 149,.b false],
 .m 17 (.t 150)] (some []) [3,136,137,138,139,140,141,142,143,144,145,146,147,148,149,150]) (.seq (.g [.f 151 2 (.t 16),
 .l 152 6 (.t 151),.o 153 (.bin .add) [.t 152,.i 1],.f 154 2 (.t 16),
 .n (.storeF 6 1) [.t 154,.t 153]] [151,152,153,154]) (.seq (.g [.o 155 (.loadF 6 true 3 false) [.t 16],.m 156 (.t 17),
 .n (.storeF 1 3) [.t 4,.t 155],.m 5 (.i 0),.m 6 (.t 156)] [16,17,155,156]) .ret)))) [] (.seq (.g [
 .o 158 (.bin .eql) [.t 20,.i 10],.m 157 (.t 158)] [158]) (.cond (.T 157) [0,20] (.seq (.r [.c 159 146 [],
 .f 160 5 (.t 3),.l 161 0 (.t 160),.o 162 (.indexAddr 11) [.T 161,.i 0],.f 163 7 (.T 162),
 .f 164 2 (.T 163),.d 165 (.T 164),.o 166 (.bin .gtr) [.t 165,.i 0],.n (.storeF 1 3) [.t 4,.t 159],
 .m 5 (.i 0),.m 6 (.t 166)] (some []) [3,159,160,165,166]) .ret) [] (.seq (.seq (.g [
 .o 168 (.bin .eql) [.t 20,.i 12],.m 167 (.t 168)] [168]) (.cond (.t 167) [20] .skip [167] (.g [
 .o 169 (.bin .eql) [.t 20,.i 13],.m 167 (.t 169)] [20,169]))) (.cond (.T 167) [0] (.seq (.g [.c 170 146 [],
 .o 18 (.allocF 7 [.i 0,.i 0,.i 0]) [],.n (.storeF 7 3) [.t 18,.t 170]] [170]) (.seq (.seq (.g [.f 171 0 (.t 3),
 .l 172 0 (.t 171),.o 173 (.bin .eql) [.t 172,.i 13]] [171,172]) (.cond (.T 173) [] (.g [
 .c 174 145 [],.n (.storeF 7 3) [.t 18,.t 174]] [174]) [] .skip)) (.seq (.r [.o 175 (.loadF 7 true 3 false) [.t 18],
 .f 176 5 (.t 3),.l 177 0 (.t 176),.o 178 (.indexAddr 11) [.T 177,.i 0],.f 179 7 (.T 178),
 .o 180 (.load true 3 false) [.T 179],.o 181 (.loadF 7 true 3 false) [.t 18],.o 182 (.eqv (.flat [.int,.int,.int]) false) [.t 180,.t 181],
 .n (.storeF 1 3) [.t 4,.t 175],.m 5 (.i 0),.m 6 (.t 182)] (some []) [3,18,175,176,180,181,182]) .ret))) []
 .skip)))))))))))))))))))))))) (.seq (.g [.m 183 (.t 0),.o 184 (.loadF 0 true 11 false) [.t 3],.c 185 167 [.t 183,.T 184],
 .o 186 (.extract 0) [.t 185],.o 187 (.extract 1) [.t 185],.o 188 (.extract 2) [.T 185],.n (.storeF 1 3) [.t 4,.t 186],.m 5 (.t 187),
 .m 6 (.t 188)] [0,3,183,186,187,188]) .ret))) }
def s142:SFunc:={ fid:=142,mode:=.scp,nparams:=2,nboxes:=3,clr:=[],results:=[.box 4 1 11 true],body:=
 (.seq (.g [.o 3 (.boxF 0 11) [.T 1],
 .o 4 (.allocF 1 [.i 0,.i 0,.str [],.str [],.i 0,.nilSl,.i 0,.i 0,.i 0,.i 0,.i 0]) []] []) (.seq
 (.g [.m 6 (.t 0),.o 7 (.loadF 0 true 11 false) [.t 3],.c 8 120 [.t 6,.T 7],
 .o 5 (.allocF 2 [.i 0,.i 0,.str [],.str [],.i 0,.nilSl,.i 0,.i 0,.i 0,.i 0,.i 0]) [],
 .n (.storeF 2 11) [.t 5,.T 8]] [3,6]) (.seq (.seq (.r [.f 9 7 (.t 5),.o 10 (.loadF 2 true 3 false) [.t 9],.c 11 117 [],
 .o 12 (.eqv (.flat [.int,.int,.int]) false) [.t 10,.t 11]] (some []) [9,10,11]) (.cond (.T 12) [] (.g [.m 13 (.t 0),.f 14 6 (.t 5),
 .l 15 2 (.t 14),.c 16 119 [.t 13,.t 15]] [0,13,14,15,16]) [0] .skip)) (.seq (.g [
 .o 17 (.loadF 2 true 11 false) [.t 5],.n (.storeF 1 11) [.t 4,.T 17]] [5]) .ret)))) }
def s143:SFunc:={ fid:=143,mode:=.scp,nparams:=3,nboxes:=1,clr:=[],results:=[.tmp 6 false,.tmp 7 false],body:=
 (.seq (.g [.o 5 (.boxF 0 3) [.t 2],.m 6 (.i 0),.m 7 (.b false)] [2,6,7]) (.seq (.seq (.g [
 .m 8 (.t 0),.o 9 .nilCheck [.t 8],.f 10 11 (.T 9),.d 11 (.T 10),.m 12 (.t 1),
 .c 13 168 [.T 11,.t 12],.o 14 (.bin .geq) [.t 13,.i 0]] [8,12,13]) (.cond (.T 14) [0,1,5] (.seq (.g [
 .m 6 (.i 0),.m 7 (.b false)] []) .ret) [] .skip)) (.seq (.r [.m 15 (.t 0),.m 16 (.t 0),
 .o 17 .nilCheck [.t 16],.f 18 11 (.T 17),.o 19 (.load false 1 true) [.T 18],.m 20 (.t 1),.o 21 (.loadF 0 true 3 false) [.t 5],
 .o 22 (.build [.str [],.i 0,.i 0,.i 0] [(0,1),(1,3)]) [.t 20,.t 21],
 .o 23 (.lit 4 1 [.str [],.i 0,.i 0,.i 0] [0]) [.t 22],.o 24 (.append 4 40) [.T 19,.T 23],.o 25 .nilCheck [.t 15],
 .f 26 11 (.T 25),.n (.store 1) [.T 26,.T 24]] (some []) [1,5,15,16,20,21,22]) (.seq (.g [.m 27 (.t 0),.o 28 .nilCheck [.t 27],
 .f 29 11 (.T 28),.d 30 (.T 29),.o 31 (.len .sl) [.T 30],.o 32 (.bin .sub) [.t 31,.i 1],
 .m 6 (.t 32),.m 7 (.b true)] [0,27,31,32]) .ret)))) }
def s144:SFunc:={ fid:=144,mode:=.scp,nparams:=2,nboxes:=1,clr:=[],results:=[.tmp 4 false,.box 5 0 3 true,.tmp 6 false],body:=
 (.seq (.g [.m 4 (.i 0),.o 5 (.allocF 0 [.i 0,.i 0,.i 0]) [],.m 6 (.b false)] [4,6])
 (.seq (.seq (.g [.m 9 (.t 0),.o 10 .nilCheck [.t 9],.f 11 11 (.T 10),.d 12 (.T 11),.m 13 (.t 1),
 .c 14 168 [.T 12,.t 13],.m 7 (.t 14)] [9,13,14]) (.seq (.g [.m 15 (.t 7),
 .o 16 (.bin .geq) [.t 15,.i 0]] [15]) (.cond (.T 16) [1] (.seq (.r [.m 17 (.t 7),.m 18 (.t 0),
 .o 19 .nilCheck [.t 18],.f 20 11 (.T 19),.d 21 (.T 20),.m 22 (.t 7),.o 23 (.indexAddr 4) [.T 21,.t 22],
 .f 24 1 (.T 23),.o 25 (.load true 3 false) [.T 24],.m 4 (.t 17),.n (.storeF 0 3) [.t 5,.t 25],
 .m 6 (.b true)] (some []) [0,7,17,18,22,25]) .ret) [7] .skip))) (.seq (.seq (.g [.m 26 (.t 0),.o 27 .nilCheck [.t 26],
 .f 28 0 (.T 27),.f 29 1 (.T 28),.d 30 (.T 29),.m 31 (.t 1),.c 32 168 [.T 30,.t 31],
 .m 8 (.t 32)] [1,26,31,32]) (.seq (.g [.m 33 (.t 8),.o 34 (.bin .geq) [.t 33,.i 0]] [33]) (.cond (.T 34) [] (.seq
 (.r [.m 35 (.t 8),.o 36 (.bin .sub) [.const (.i (-1)),.t 35],.m 37 (.t 0),.o 38 .nilCheck [.t 37],.f 39 0 (.T 38),
 .f 40 1 (.T 39),.d 41 (.T 40),.m 42 (.t 8),.o 43 (.indexAddr 4) [.T 41,.t 42],.f 44 1 (.T 43),
 .o 45 (.load true 3 false) [.T 44],.m 4 (.t 36),.n (.storeF 0 3) [.t 5,.t 45],.m 6 (.b true)] (some []) [0,8,35,36,37,42,45])
 .ret) [0,8] .skip))) (.seq (.g [.c 46 117 [],.m 4 (.i 0),.n (.storeF 0 3) [.t 5,.t 46],
 .m 6 (.b false)] [46]) .ret)))) }
def s145:SFunc:={ fid:=145,mode:=.pure,nparams:=0,nboxes:=1,clr:=[],results:=[.box 0 0 3 true],body:=
 (.seq (.g [.o 0 (.allocF 0 [.i 0,.i 0,.i 0]) []] []) (.seq (.g [
 .o 1 (.build [.i 0,.i 0,.i 0] [(0,1)]) [.i 2],.n (.storeF 0 3) [.t 0,.t 1]] [1]) .ret)) }
def s146:SFunc:={ fid:=146,mode:=.pure,nparams:=0,nboxes:=1,clr:=[],results:=[.box 0 0 3 true],body:=
 (.seq (.g [.o 0 (.allocF 0 [.i 0,.i 0,.i 0]) []] []) (.seq (.g [
 .o 1 (.build [.i 0,.i 0,.i 0] [(0,1)]) [.i 1],.n (.storeF 0 3) [.t 0,.t 1]] [1]) .ret)) }
def s147:SFunc:={ fid:=147,mode:=.scp,nparams:=3,nboxes:=0,clr:=[],results:=[.tmp 6 false],body:=
 (.seq (.g [.m 6 (.i 0)] [6]) (.seq (.g [.m 7 (.t 0),.m 8 (.t 2),
 .c 9 48 [.t 7,.t 8]] [0,2,7,8,9]) (.seq (.g [.m 10 (.t 1),.m 6 (.t 10)] [1,10]) .ret))) }
def s148:SFunc:={ fid:=148,mode:=.scp,nparams:=3,nboxes:=0,clr:=[],results:=[.tmp 6 false,.tmp 7 false],body:=
 (.seq (.g [.m 6 (.i 0),.m 7 (.i 0)] [6,7]) (.seq (.g [.m 11 (.t 0),.m 12 (.t 1),
 .m 13 (.t 2),.c 14 156 [.t 11,.t 12,.t 13],.m 10 (.T 14),.o 15 (.extract 0) [.t 10],.o 16 (.extract 1) [.T 10],.m 8 (.t 15),
 .m 9 (.t 16)] [0,1,2,11,12,13,15,16]) (.seq (.seq (.g [.m 17 (.t 9),.o 18 (.bin .neq) [.t 17,.i 0]] [17])
 (.cond (.T 18) [8] (.seq (.g [.m 19 (.t 9),.m 6 (.i 0),.m 7 (.t 19)] [9,19]) .ret) [9] .skip)) (.seq (.g [
 .m 20 (.t 8),.o 21 .nilCheck [.t 20],.d 22 (.T 21),.m 6 (.t 22),.m 7 (.i 0)] [8,20,22])
 .ret)))) }
def s149:SFunc:={ fid:=149,mode:=.scp,nparams:=2,nboxes:=0,clr:=[],results:=[.tmp 4 false,.tmp 5 false],body:=
 (.seq (.g [.m 4 (.i 0),.m 5 (.i 0)] [4,5]) (.seq (.g [.m 9 (.t 0),.m 10 (.t 1),
 .c 11 169 [.t 9,.t 10],.m 8 (.T 11),.o 12 (.extract 0) [.t 8],.o 13 (.extract 1) [.T 8],.m 6 (.T 12),
 .m 7 (.t 13)] [0,1,9,10,13]) (.seq (.seq (.g [.m 14 (.t 7),.o 15 (.un .not) [.t 14]] [7,14]) (.cond (.T 15) [6] (.seq (.g [
 .m 4 (.i 0),.m 5 (.i 1)] []) .ret) [] .skip)) (.seq (.g [.m 16 (.T 6),.o 17 (.len .sl) [.T 16],
 .m 4 (.t 17),.m 5 (.i 0)] [17]) .ret)))) }
def s150:SFunc:={ fid:=150,mode:=.opn,nparams:=2,nboxes:=0,clr:=[],results:=[.tmp 4 false],body:=
 (.seq (.g [.m 4 (.i 0)] [4]) (.seq (.seq (.g [.m 5 (.t 0),
 .o 6 (.eqv .ptr false) [.t 5,.const .nilPtr]] [5]) (.cond (.T 6) [0,1] (.seq (.g [.m 4 (.i 0)] []) .ret) [] .skip))
 (.seq (.g [.m 7 (.t 0),.m 8 (.t 1),.o 9 (.minmax true) [.t 8,.i 0],.o 10 (.minmax false) [.t 9,.i 8],
 .c 11 170 [.t 7,.t 10],.m 4 (.t 11)] [0,1,7,8,9,10,11]) .ret))) }
def s151:SFunc:={ fid:=151,mode:=.opn,nparams:=2,nboxes:=0,clr:=[],results:=[.tmp 4 false,.tmp 5 false],body:=
 (.seq (.g [.m 4 (.i 0),.m 5 (.i 0)] [4,5]) (.seq (.block 0 (.seq (.g [.m 7 (.t 0),
 .o 8 (.eqv .ptr false) [.t 7,.const .nilPtr],.m 6 (.t 8)] [7,8]) (.cond (.T 6) [0,1] (.seq (.g [.m 4 (.i 0),
 .m 5 (.i 1)] []) .ret) [] (.seq (.g [.m 10 (.t 1),.o 11 (.bin .lss) [.t 10,.i 0],.m 12 (.t 11),
 .z 13 .move [.t 1] 12,.z 14 (.bin .gtr) [.t 13,.i 50] 12,.o 15 .pick [.t 12,.b true,.t 14],
 .m 9 (.t 15)] [10,11,12,13,14,15]) (.cond (.T 9) [0,1] (.seq (.g [.m 4 (.i 0),
 .m 5 (.i 4)] []) .ret) [] .skip))))) (.seq (.g [.m 16 (.t 0),.m 17 (.t 1),.c 18 170 [.t 16,.t 17],
 .m 4 (.t 18),.m 5 (.i 0)] [0,1,16,17,18]) .ret))) }
def s152:SFunc:={ fid:=152,mode:=.scp,nparams:=1,nboxes:=0,clr:=[],results:=[.tmp 2 false],body:=
 (.seq (.g [.m 2 (.i 0)] [2]) (.seq (.seq (.g [.m 4 (.t 0),.o 5 .nilCheck [.t 4],.f 6 6 (.T 5),
 .d 7 (.T 6),.o 8 (.len .sl) [.T 7],.o 9 (.bin .eql) [.t 8,.i 0]] [4,8]) (.cond (.T 9) [] (.seq (.g [
 .m 10 (.t 0),.c 11 48 [.t 10,.i 5]] [0,10,11]) (.seq (.g [.m 2 (.i 0)] []) .ret)) []
 .skip)) (.seq (.g [.m 12 (.t 0),.o 13 .nilCheck [.t 12],.f 14 6 (.T 13),.d 15 (.T 14),
 .o 16 (.indexAddr 1) [.T 15,.i 0],.d 17 (.T 16),.m 3 (.t 17)] [12,17]) (.seq (.g [.m 18 (.t 0),
 .m 19 (.t 0),.o 20 .nilCheck [.t 19],.f 21 6 (.T 20),.d 22 (.T 21),
 .o 23 (.slice false true false false 1) [.T 22,.i 1],.o 24 .nilCheck [.t 18],.f 25 6 (.T 24),
 .n (.store 1) [.T 25,.T 23]] [0,18,19]) (.seq (.g [.m 26 (.t 3),.m 2 (.t 26)] [3,26]) .ret))))) }
def s153:SFunc:={ fid:=153,mode:=.pure,nparams:=2,nboxes:=0,clr:=[],results:=[.tmp 4 false],body:=
 (.seq (.g [.m 4 (.i 0)] [4]) (.seq (.seq (.g [.m 5 (.t 0)] [0]) (.block 0 (.seq (.g [
 .o 7 (.bin .eql) [.t 5,.i 12],.m 6 (.t 7)] [7]) (.cond (.T 6) [5] (.seq (.g [.m 8 (.t 1),.o 9 (.un .neg) [.t 8],
 .m 4 (.t 9)] [1,8,9]) .ret) [] (.seq (.g [.o 11 (.bin .eql) [.t 5,.i 13],.m 10 (.t 11)] [5,11]) (.cond (.T 10) []
 (.seq (.g [.m 12 (.t 1),.o 13 (.bin .eql) [.t 12,.i 0],.c 14 171 [.t 13],.m 4 (.t 14)] [1,12,13,14])
 .ret) [1] .skip)))))) (.seq (.g [.m 4 (.i 0)] []) .ret))) }
def s154:SFunc:={ fid:=154,mode:=.pure,nparams:=3,nboxes:=0,clr:=[],results:=[.tmp 6 false,.tmp 7 false],body:=
 (.seq (.g [.m 6 (.i 0),.m 7 (.i 0)] [6,7]) (.seq (.seq (.g [.m 8 (.t 0)] [])
 (.block 0 (.seq (.g [.o 10 (.bin .eql) [.t 8,.i 14],.m 9 (.t 10)] [10]) (.cond (.T 9) [0,8] (.seq (.g [
 .m 11 (.t 1),.m 12 (.t 2),.o 13 (.bin .add) [.t 11,.t 12],.m 6 (.t 13),.m 7 (.i 0)] [1,2,11,12,13]) .ret) []
 (.seq (.g [.o 15 (.bin .eql) [.t 8,.i 15],.m 14 (.t 15)] [15]) (.cond (.T 14) [0,8] (.seq (.g [.m 16 (.t 1),
 .m 17 (.t 2),.o 18 (.bin .sub) [.t 16,.t 17],.m 6 (.t 18),.m 7 (.i 0)] [1,2,16,17,18]) .ret) [] (.seq (.g [
 .o 20 (.bin .eql) [.t 8,.i 16],.m 19 (.t 20)] [20]) (.cond (.T 19) [0,8] (.seq (.g [.m 21 (.t 1),.m 22 (.t 2),
 .o 23 (.bin .mul) [.t 21,.t 22],.m 6 (.t 23),.m 7 (.i 0)] [1,2,21,22,23]) .ret) [] (.seq (.seq (.g [
 .o 25 (.bin .eql) [.t 8,.i 17],.m 24 (.t 25)] [25]) (.cond (.t 24) [] .skip [24] (.g [
 .o 26 (.bin .eql) [.t 8,.i 18],.m 24 (.t 26)] [26]))) (.cond (.T 24) [8] (.seq (.seq (.g [.m 27 (.t 2),
 .o 28 (.bin .eql) [.t 27,.i 0]] [27]) (.cond (.T 28) [0,1,2] (.seq (.g [.m 6 (.i 0),
 .m 7 (.i 3)] []) .ret) [] .skip)) (.seq (.seq (.g [.m 29 (.t 0),
 .o 30 (.bin .eql) [.t 29,.i 17]] [0,29]) (.cond (.T 30) [] (.seq (.g [.m 31 (.t 1),.m 32 (.t 2),
 .o 33 (.bin .quo) [.t 31,.t 32],.m 6 (.t 33),.m 7 (.i 0)] [1,2,31,32,33]) .ret) [] .skip)) (.seq (.g [
 .m 34 (.t 1),.m 35 (.t 2),.o 36 (.bin .rem) [.t 34,.t 35],.m 6 (.t 36),.m 7 (.i 0)] [1,2,34,35,36])
 .ret))) [0] (.seq (.g [.o 38 (.bin .eql) [.t 8,.i 19],.m 37 (.t 38)] [38]) (.cond (.T 37) [8] (.seq (.g [
 .m 39 (.t 1),.m 40 (.t 2),.o 41 (.bin .lss) [.t 39,.t 40],.c 42 171 [.t 41],.m 6 (.t 42),
 .m 7 (.i 0)] [1,2,39,40,41,42]) .ret) [] (.seq (.g [.o 44 (.bin .eql) [.t 8,.i 20],
 .m 43 (.t 44)] [44]) (.cond (.T 43) [8] (.seq (.g [.m 45 (.t 1),.m 46 (.t 2),.o 47 (.bin .leq) [.t 45,.t 46],
 .c 48 171 [.t 47],.m 6 (.t 48),.m 7 (.i 0)] [1,2,45,46,47,48]) .ret) [] (.seq (.g [
 .o 50 (.bin .eql) [.t 8,.i 21],.m 49 (.t 50)] [50]) (.cond (.T 49) [8] (.seq (.g [.m 51 (.t 1),.m 52 (.t 2),
 .o 53 (.bin .eql) [.t 51,.t 52],.c 54 171 [.t 53],.m 6 (.t 54),.m 7 (.i 0)] [1,2,51,52,53,54]) .ret) [] (.seq
 (.g [.o 56 (.bin .eql) [.t 8,.i 22],.m 55 (.t 56)] [56]) (.cond (.T 55) [8] (.seq (.g [.m 57 (.t 1),
 .m 58 (.t 2),.o 59 (.bin .neq) [.t 57,.t 58],.c 60 171 [.t 59],.m 6 (.t 60),.m 7 (.i 0)] [1,2,57,58,59,60])
 .ret) [] (.seq (.g [.o 62 (.bin .eql) [.t 8,.i 23],.m 61 (.t 62)] [62]) (.cond (.T 61) [8] (.seq (.g [
 .m 63 (.t 1),.o 64 (.bin .neq) [.t 63,.i 0],.m 65 (.t 64),.y 66 .move [.t 2] 65,
 .y 67 (.bin .neq) [.t 66,.i 0] 65,.o 68 .pick [.t 65,.t 67,.b false],.c 69 171 [.t 68],.m 6 (.t 69),
 .m 7 (.i 0)] [1,2,63,64,65,66,67,68,69]) .ret) [] (.seq (.g [.o 71 (.bin .eql) [.t 8,.i 24],
 .m 70 (.t 71)] [8,71]) (.cond (.T 70) [] (.seq (.g [.m 72 (.t 1),.o 73 (.bin .neq) [.t 72,.i 0],.m 74 (.t 73),
 .z 75 .move [.t 2] 74,.z 76 (.bin .neq) [.t 75,.i 0] 74,.o 77 .pick [.t 74,.b true,.t 76],.c 78 171 [.t 77],
 .m 6 (.t 78),.m 7 (.i 0)] [1,2,72,73,74,75,76,77,78]) .ret) [1,2] .skip)))))))))))))))))))))) (.seq (.g [
 .m 6 (.i 0),.m 7 (.i 0)] []) .ret))) }
def s155:SFunc:={ fid:=155,mode:=.opn,nparams:=2,nboxes:=0,clr:=[],results:=[.tmp 4 true],body:=
 (.seq (.g [.o 4 .move [.const .nilSl]] [4]) (.seq (.seq (.g [.m 5 (.t 1),.o 6 (.bin .lss) [.t 5,.i 0]] [5])
 (.cond (.T 6) [] (.g [.o 7 (.sliceM 0) [],.n (.sliceM 0) []] [7]) [] .skip)) (.seq (.seq (.g [.m 8 (.t 1),.m 9 (.t 0),
 .o 10 .capN [.T 9],.m 11 (.t 0),.o 12 (.len .sl) [.T 11],.o 13 (.bin .sub) [.t 10,.t 12],.o 14 (.bin .sub) [.t 8,.t 13],
 .m 1 (.t 14)] [8,10,12,13,14]) (.seq (.g [.m 15 (.t 1),.o 16 (.bin .gtr) [.t 15,.i 0]] [15]) (.cond (.T 16) []
 (.g [.m 17 (.t 0),.m 18 (.t 0),.o 19 .capN [.T 18],.o 20 (.slice false false true false 11) [.T 17,.t 19],.m 21 (.t 1),
 .o 22 (.appendZ 11 120 [.i 0,.i 0,.str [],.str [],.i 0,.nilSl,.i 0,.i 0,.i 0,.i 0,.i 0]) [.T 20,.t 21],
 .m 23 (.T 0),.o 24 (.len .sl) [.T 23],.o 25 (.sliceM 11) [.T 22,.t 24],.m 0 (.T 25)] [1,19,21,24]) [1] .skip))) (.seq (.g [
 .m 26 (.T 0),.m 4 (.T 26)] []) .ret)))) }
def s156:SFunc:={ fid:=156,mode:=.opn,nparams:=3,nboxes:=0,clr:=[],results:=[.tmp 6 false,.tmp 7 false],body:=
 (.seq (.g [.o 6 .move [.const .nilPtr],.m 7 (.i 0)] [6,7]) (.seq (.g [.m 11 (.t 0),.m 12 (.t 1),
 .c 13 169 [.t 11,.t 12],.m 10 (.T 13),.o 14 (.extract 0) [.t 10],.o 15 (.extract 1) [.T 10],.m 8 (.T 14),
 .m 9 (.t 15)] [0,1,11,12,15]) (.seq (.block 0 (.seq (.g [.m 17 (.t 9),.o 18 (.un .not) [.t 17],.m 16 (.t 18)] [9,17,18])
 (.cond (.T 16) [2,8] (.seq (.g [.o 6 .move [.const .nilPtr],.m 7 (.i 1)] []) .ret) [] (.seq (.g [.m 20 (.t 2),
 .o 21 (.bin .lss) [.t 20,.i 0],.m 22 (.t 21),.z 23 .move [.t 2] 22,.z 24 .move [.t 8] 22,.z 25 (.len .sl) [.T 24] 22,
 .z 26 (.bin .geq) [.t 23,.t 25] 22,.o 27 .pick [.t 22,.b true,.t 26],.m 19 (.t 27)] [20,21,22,23,24,25,26,27]) (.cond (.T 19) [2,8]
 (.seq (.g [.o 6 .move [.const .nilPtr],.m 7 (.i 2)] []) .ret) [] .skip))))) (.seq (.g [.m 28 (.T 8),
 .m 29 (.t 2),.o 30 (.indexAddr 1) [.T 28,.t 29],.m 6 (.T 30),.m 7 (.i 0)] [2,29]) .ret)))) }
def s161:SFunc:={ fid:=161,mode:=.scp,nparams:=2,nboxes:=2,clr:=[],results:=[.box 4 0 11 true],body:=
 (.seq (.g [
 .o 4 (.allocF 0 [.i 0,.i 0,.str [],.str [],.i 0,.nilSl,.i 0,.i 0,.i 0,.i 0,.i 0]) []] []) (.seq
 (.seq (.g [.m 6 (.t 0),.c 7 21 [.t 6,.const (.str [91])],.o 8 (.un .not) [.t 7]] [6,7]) (.cond (.T 8) [] (.seq (.g [
 .m 9 (.t 0),.c 10 41 [.t 9],.o 11 (.build [.str [],.i 0] [(0,1)]) [.t 10],.m 12 (.t 1),
 .o 13 (.build [.i 0,.i 0,.str [],.str [],.i 0,.nilSl,.i 0,.i 0,.i 0,.i 0,.i 0] [(0,1),(3,2),(6,1)]) [.i 8,.t 11,.t 12],
 .n (.storeF 0 11) [.t 4,.T 13]] [0,1,9,10,11,12]) .ret) [] .skip)) (.seq (.g [.m 14 (.t 0),.o 15 .nilCheck [.t 14],
 .f 16 1 (.T 15),.d 17 (.T 16),.o 18 (.bin .add) [.t 17,.i 1],.o 19 .nilCheck [.t 14],
 .f 20 1 (.T 19),.n (.store 1) [.T 20,.t 18]] [14,17,18]) (.seq (.g [.m 21 (.t 0),.c 22 42 [.t 21],
 .o 5 (.allocF 1 [.str [],.i 0]) [],.n (.storeF 1 2) [.t 5,.t 22]] [21,22]) (.seq (.g [.m 23 (.t 0),
 .c 24 25 [.t 23,.const (.str [93])]] [23,24]) (.seq (.r [.o 25 (.loadF 1 true 2 false) [.t 5],.m 26 (.t 0),
 .c 27 162 [.t 26],
 .o 28 (.lit 11 1 [.i 0,.i 0,.str [],.str [],.i 0,.nilSl,.i 0,.i 0,.i 0,.i 0,.i 0] [0]) [.T 27],
 .m 29 (.t 1),
 .o 30 (.build [.i 0,.i 0,.str [],.str [],.i 0,.nilSl,.i 0,.i 0,.i 0,.i 0,.i 0] [(0,1),(3,2),(5,1),(6,1)]) [.i 9,.t 25,.T 28,.t 29],
 .n (.storeF 0 11) [.t 4,.T 30]] (some []) [0,1,5,25,26,29]) .ret)))))) }
def s162:SFunc:={ fid:=162,mode:=.scp,nparams:=1,nboxes:=2,clr:=[],results:=[.box 2 0 11 true],body:=
 (.seq (.g [
 .o 2 (.allocF 0 [.i 0,.i 0,.str [],.str [],.i 0,.nilSl,.i 0,.i 0,.i 0,.i 0,.i 0]) []] []) (.seq
 (.g [.m 4 (.t 0),.c 5 65 [.t 4,.const (.str [40])]] [4,5]) (.seq (.g [.m 6 (.t 0),
 .c 7 91 [.t 6,.i 0],
 .o 3 (.allocF 1 [.i 0,.i 0,.str [],.str [],.i 0,.nilSl,.i 0,.i 0,.i 0,.i 0,.i 0]) [],
 .n (.storeF 1 11) [.t 3,.T 7]] [6]) (.seq (.g [.m 8 (.t 0),.c 9 67 [.t 8,.const (.str [41])]] [0,8,9]) (.seq (.g [
 .o 10 (.loadF 1 true 11 false) [.t 3],.n (.storeF 0 11) [.t 2,.T 10]] [3]) .ret))))) }
def s163_l0:SCode:=
 (.seq (.seq (.g [.m 15 (.t 0),.c 16 21 [.t 15,.const (.str [44])]] [15]) (.cond (.T 16) [] .skip [] (.exit 0))) (.block 1 (.seq
 (.g [.m 17 (.t 0),.o 18 .nilCheck [.t 17],.f 19 1 (.T 18),.d 20 (.T 19),
 .o 21 (.bin .add) [.t 20,.i 1],.o 22 .nilCheck [.t 17],.f 23 1 (.T 22),.n (.store 1) [.T 23,.t 21]] [17,20,21])
 (.g [.m 24 (.T 3),.m 25 (.t 0),.c 26 91 [.t 25,.i 0],
 .o 27 (.lit 11 1 [.i 0,.i 0,.str [],.str [],.i 0,.nilSl,.i 0,.i 0,.i 0,.i 0,.i 0] [0]) [.T 26],
 .o 28 (.append 11 120) [.T 24,.T 27],.m 3 (.T 28)] [25]))))
def s163:SFunc:={ fid:=163,mode:=.scp,nparams:=1,nboxes:=0,clr:=[],results:=[.tmp 2 true],body:=
 (.seq (.g [.o 2 .move [.const .nilSl]] [2]) (.seq (.g [.o 3 .move [.const .nilSl]] []) (.seq (.g [.m 4 (.t 0),
 .c 5 65 [.t 4,.const (.str [40])]] [4,5]) (.seq (.seq (.g [.m 6 (.t 0),.c 7 21 [.t 6,.const (.str [41])]] [6])
 (.cond (.T 7) [3] (.seq (.g [.m 8 (.t 0),.c 9 67 [.t 8,.const (.str [41])]] [0,8,9]) (.seq (.g [
 .o 2 .move [.const .nilSl]] []) .ret)) [] .skip)) (.seq (.g [.m 10 (.T 3),.m 11 (.t 0),.c 12 91 [.t 11,.i 0],
 .o 13 (.lit 11 1 [.i 0,.i 0,.str [],.str [],.i 0,.nilSl,.i 0,.i 0,.i 0,.i 0,.i 0] [0]) [.T 12],
 .o 14 (.append 11 120) [.T 10,.T 13],.m 3 (.T 14)] [11]) (.seq (.block 0 (.loop s163_l0)) (.seq (.g [.m 29 (.t 0),
 .c 30 67 [.t 29,.const (.str [41])]] [0,29,30]) (.seq (.g [.m 31 (.T 3),.m 2 (.T 31)] []) .ret)))))))) }
def s164:SFunc:={ fid:=164,mode:=.pure,nparams:=1,nboxes:=1,clr:=[],results:=[.tmp 2 false],body:=
 (.seq (.g [.o 1 (.boxF 0 3) [.t 0],.m 2 (.b false)] [0,2]) (.seq (.g [.f 3 0 (.t 1),
 .l 4 0 (.t 3),.o 5 (.bin .eql) [.t 4,.i 3],.m 6 (.t 5),.z 7 (.fieldAddr 2) [.t 1] 6,
 .z 8 (.loadF 0 false 1 false) [.t 7] 6,.z 9 (.bin .gtr) [.t 8,.i 0] 6,.o 10 .pick [.t 6,.b true,.t 9],
 .m 2 (.t 10)] [1,3,4,5,6,7,8,9,10]) .ret)) }
def s165:SFunc:={ fid:=165,mode:=.scp,nparams:=2,nboxes:=3,clr:=[],results:=[.box 4 1 3 true,.tmp 5 false,.tmp 6 false],body:=
 (.seq (.g [.o 3 (.boxF 0 11) [.T 1],.o 4 (.allocF 1 [.i 0,.i 0,.i 0]) [],.m 5 (.i 0),
 .m 6 (.b false)] [5,6]) (.seq (.g [.f 10 5 (.t 3),.l 11 0 (.t 10),
 .o 12 (.indexAddr 11) [.T 11,.i 0],.f 13 7 (.T 12),.o 14 (.load true 3 false) [.T 13],
 .o 7 (.allocF 2 [.i 0,.i 0,.i 0]) [],.n (.storeF 2 3) [.t 7,.t 14]] [10,14]) (.seq (.seq (.g [.f 15 0 (.t 7),
 .l 16 2 (.t 15),.o 17 (.bin .neq) [.t 16,.i 3],.m 18 (.t 17),.z 19 (.fieldAddr 2) [.t 7] 18,
 .z 20 (.loadF 2 false 1 false) [.t 19] 18,.z 21 (.bin .neq) [.t 20,.i 0] 18,
 .o 22 .pick [.t 18,.b true,.t 21]] [15,16,17,18,19,20,21]) (.cond (.T 22) [0,3,7] (.seq (.g [.c 23 117 [],
 .n (.storeF 1 3) [.t 4,.t 23],.m 5 (.i 0),.m 6 (.b false)] [23]) .ret) [] .skip)) (.seq (.r [
 .m 24 (.t 0),.o 25 .nilCheck [.t 24],.f 26 0 (.T 25),.f 27 0 (.T 26),.d 28 (.T 27),
 .f 29 1 (.t 7),.l 30 2 (.t 29),.o 31 (.indexAddr 2) [.T 28,.t 30],.f 32 1 (.T 31),
 .d 33 (.T 32),.m 8 (.T 33)] (some []) [0,7,24,29,30]) (.seq (.g [.m 34 (.t 8),.f 35 2 (.t 3),
 .l 36 0 (.t 35),.c 37 168 [.T 34,.t 36],.m 9 (.t 37)] [3,35,36,37]) (.seq (.seq (.g [.m 38 (.t 9),
 .o 39 (.bin .lss) [.t 38,.i 0]] [38]) (.cond (.T 39) [8,9] (.seq (.g [.c 40 117 [],.n (.storeF 1 3) [.t 4,.t 40],
 .m 5 (.i 0),.m 6 (.b false)] [40]) .ret) [] .skip)) (.seq (.g [.m 41 (.T 8),.m 42 (.t 9),
 .o 43 (.indexAddr 4) [.T 41,.t 42],.f 44 1 (.T 43),.o 45 (.load true 3 false) [.T 44],.m 46 (.t 9),.n (.storeF 1 3) [.t 4,.t 45],
 .m 5 (.t 46),.m 6 (.b true)] [9,42,45,46]) .ret))))))) }
def s166_l0:SCode:=
 (.seq (.g [.o 47 (.bin .lss) [.t 46,.t 45]] []) (.seq (.cond (.T 47) [] .skip [3,44,45,46] (.exit 0)) (.seq (.block 1 (.seq (.g [
 .m 48 (.t 46),.o 49 (.indexAddr 4) [.t 44,.t 46],.o 50 (.load true 4 false) [.T 49],
 .o 9 (.allocF 1 [.str [],.i 0,.i 0,.i 0]) [],.m 8 (.t 48),.n (.storeF 1 4) [.t 9,.t 50]] [48,50]) (.seq (.r [
 .f 51 5 (.t 3),.d 52 (.T 51),.m 53 (.t 8),.o 54 (.indexAddr 11) [.T 52,.t 53],.f 55 7 (.T 54),
 .o 56 (.load true 3 false) [.T 55],.f 57 1 (.t 9),.o 58 (.loadF 1 true 3 false) [.t 57],
 .o 59 (.eqv (.flat [.int,.int,.int]) true) [.t 56,.t 58]] (some []) [8,9,53,56,57,58]) (.cond (.T 59) [0,3,7,44,45,46] (.seq (.g [.c 60 117 [],
 .n (.storeF 0 3) [.t 4,.t 60],.m 5 (.i 0),.m 6 (.b false)] [60]) .ret) [] .skip)))) (.g [
 .o 61 (.bin .add) [.t 46,.i 1],.m 46 (.t 61)] [61]))))
def s166:SFunc:={ fid:=166,mode:=.scp,nparams:=2,nboxes:=2,clr:=[],results:=[.box 4 0 3 true,.tmp 5 false,.tmp 6 false],body:=
 (.seq (.g [.o 3 (.box 11) [.T 1],.o 4 (.allocF 0 [.i 0,.i 0,.i 0]) [],.m 5 (.i 0),
 .m 6 (.b false)] [5,6]) (.seq (.g [.m 10 (.t 0),.o 11 .nilCheck [.t 10],.f 12 0 (.T 11),
 .f 13 2 (.T 12),.d 14 (.T 13),.o 15 (.makeFunc 172 0) [.t 3],.c 16 71 [.T 14,.t 15],
 .m 7 (.t 16)] [10,15,16]) (.seq (.seq (.r [.m 17 (.t 7),.o 18 (.bin .lss) [.t 17,.i 0],.m 19 (.t 18),
 .z 20 .move [.t 0] 19,.z 21 .nilCheck [.t 20] 19,.z 22 (.fieldAddr 0) [.T 21] 19,.z 23 (.fieldAddr 2) [.T 22] 19,.z 24 (.load false 1 false) [.T 23] 19,
 .z 25 .move [.t 7] 19,.z 26 (.indexAddr 6) [.T 24,.t 25] 19,.z 27 (.fieldAddr 1) [.T 26] 19,.z 28 (.load false 1 false) [.T 27] 19,
 .z 29 (.len .sl) [.T 28] 19,.z 30 (.fieldAddr 5) [.t 3] 19,.z 31 (.load false 1 false) [.T 30] 19,.z 32 (.len .sl) [.T 31] 19,
 .z 33 (.bin .neq) [.t 29,.t 32] 19,.o 34 .pick [.t 19,.b true,.t 33]] (some []) [17,18,19,20,21,22,23,24,25,26,27,28,29,30,31,32,33])
 (.cond (.T 34) [0,3,7] (.seq (.g [.c 35 117 [],.n (.storeF 0 3) [.t 4,.t 35],.m 5 (.i 0),
 .m 6 (.b false)] [35]) .ret) [] .skip)) (.seq (.seq (.g [.m 36 (.t 0),.o 37 .nilCheck [.t 36],
 .f 38 0 (.T 37),.f 39 2 (.T 38),.d 40 (.T 39),.m 41 (.t 7),.o 42 (.indexAddr 6) [.T 40,.t 41],
 .f 43 1 (.T 42),.d 44 (.T 43),.o 45 (.len .sl) [.t 44],.m 46 (.i 0)] [36,41]) (.block 0
 (.loop s166_l0))) (.seq (.g [.m 62 (.t 0),.o 63 .nilCheck [.t 62],.f 64 0 (.T 63),.f 65 2 (.T 64),
 .d 66 (.T 65),.m 67 (.t 7),.o 68 (.indexAddr 6) [.T 66,.t 67],.f 69 3 (.T 68),.o 70 (.load true 3 false) [.T 69],
 .m 71 (.t 7),.n (.storeF 0 3) [.t 4,.t 70],.m 5 (.t 71),.m 6 (.b true)] [0,7,62,67,70,71]) .ret))))) }
def s167:SFunc:={ fid:=167,mode:=.scp,nparams:=2,nboxes:=4,clr:=[0],results:=[.box 4 1 3 true,.tmp 5 false,.tmp 6 false],body:=
 (.seq (.g [.o 3 (.boxF 0 11) [.T 1],.o 4 (.allocF 1 [.i 0,.i 0,.i 0]) [],.m 5 (.i 0),
 .m 6 (.b false)] [5,6]) (.seq (.r [.f 9 5 (.t 3),.l 10 0 (.t 9),
 .o 11 (.indexAddr 11) [.T 10,.i 0],.f 12 7 (.T 11),.o 13 (.load true 3 false) [.T 12],.f 14 5 (.t 3),
 .l 15 0 (.t 14),.o 16 (.indexAddr 11) [.T 15,.i 1],.f 17 7 (.T 16),.o 18 (.load true 3 false) [.T 17],
 .o 7 (.allocF 2 [.i 0,.i 0,.i 0]) [],.o 8 (.allocF 3 [.i 0,.i 0,.i 0]) [],.n (.storeF 2 3) [.t 7,.t 13],
 .n (.storeF 3 3) [.t 8,.t 18]] (some []) [9,13,14,18]) (.seq (.seq (.g [.f 19 0 (.t 3),
 .l 20 0 (.t 19)] [3,19]) (.block 0 (.seq (.seq (.g [.o 22 (.bin .eql) [.t 20,.i 14],
 .m 21 (.t 22)] [22]) (.cond (.t 21) [] .skip [21] (.seq (.g [.o 23 (.bin .eql) [.t 20,.i 15],.m 21 (.t 23)] [23])
 (.cond (.t 21) [] .skip [21] (.seq (.g [.o 24 (.bin .eql) [.t 20,.i 16],.m 21 (.t 24)] [24]) (.cond (.t 21) [] .skip [21]
 (.seq (.g [.o 25 (.bin .eql) [.t 20,.i 17],.m 21 (.t 25)] [25]) (.cond (.t 21) [] .skip [21] (.g [
 .o 26 (.bin .eql) [.t 20,.i 18],.m 21 (.t 26)] [26]))))))))) (.cond (.T 21) [20] (.seq (.r [.c 27 146 [],
 .o 28 (.loadF 2 true 3 false) [.t 7],.c 29 146 [],.o 30 (.eqv (.flat [.int,.int,.int]) false) [.t 28,.t 29],.m 31 (.t 30),
 .y 32 (.loadF 3 true 3 false) [.t 8] 31,.y 33 (.call 146) [] 31,.y 34 (.eqv (.flat [.int,.int,.int]) false) [.t 32,.t 33] 31,
 .o 35 .pick [.t 31,.t 34,.b false],.n (.storeF 1 3) [.t 4,.t 27],.m 5 (.i 0),
 .m 6 (.t 35)] (some []) [7,8,27,28,29,30,31,32,33,34,35]) .ret) [] (.seq (.seq (.g [.o 37 (.bin .eql) [.t 20,.i 19],
 .m 36 (.t 37)] [37]) (.cond (.t 36) [] .skip [36] (.g [.o 38 (.bin .eql) [.t 20,.i 20],.m 36 (.t 38)] [38])))
 (.cond (.T 36) [20] (.seq (.r [.c 39 145 [],.o 40 (.loadF 2 true 3 false) [.t 7],.c 41 146 [],
 .o 42 (.eqv (.flat [.int,.int,.int]) false) [.t 40,.t 41],.m 43 (.t 42),.y 44 (.loadF 3 true 3 false) [.t 8] 43,.y 45 (.call 146) [] 43,
 .y 46 (.eqv (.flat [.int,.int,.int]) false) [.t 44,.t 45] 43,.o 47 .pick [.t 43,.t 46,.b false],.n (.storeF 1 3) [.t 4,.t 39],
 .m 5 (.i 0),.m 6 (.t 47)] (some []) [7,8,39,40,41,42,43,44,45,46,47]) .ret) [] (.seq (.seq (.g [
 .o 49 (.bin .eql) [.t 20,.i 21],.m 48 (.t 49)] [49]) (.cond (.t 48) [20] .skip [48] (.g [
 .o 50 (.bin .eql) [.t 20,.i 22],.m 48 (.t 50)] [20,50]))) (.cond (.T 48) [] (.seq (.r [.c 51 145 [],
 .o 52 (.loadF 2 true 3 false) [.t 7],.o 53 (.loadF 3 true 3 false) [.t 8],.o 54 (.eqv (.flat [.int,.int,.int]) false) [.t 52,.t 53],
 .n (.storeF 1 3) [.t 4,.t 51],.m 5 (.i 0),.m 6 (.t 54)] (some []) [7,8,51,52,53,54]) .ret) [] .skip)))))))) (.seq (.r [
 .c 55 145 [],.o 56 (.loadF 2 true 3 false) [.t 7],.c 57 145 [],.o 58 (.eqv (.flat [.int,.int,.int]) false) [.t 56,.t 57],
 .m 59 (.t 58),.y 60 (.loadF 3 true 3 false) [.t 8] 59,.y 61 (.call 145) [] 59,.y 62 (.eqv (.flat [.int,.int,.int]) false) [.t 60,.t 61] 59,
 .o 63 .pick [.t 59,.t 62,.b false],.n (.storeF 1 3) [.t 4,.t 55],.m 5 (.i 0),
 .m 6 (.t 63)] (some []) [7,8,55,56,57,58,59,60,61,62,63]) .ret)))) }
def s168:SFunc:={ fid:=168,mode:=.pure,nparams:=2,nboxes:=0,clr:=[],results:=[.tmp 4 false],body:=
 (.seq (.g [.o 3 (.box 1) [.t 1],.m 4 (.i 0)] [1,4]) (.seq (.g [.m 5 (.T 0),.o 6 (.makeFunc 174 0) [.T 3],
 .c 7 173 [.T 5,.t 6],.m 4 (.t 7)] [6,7]) .ret)) }
def s169:SFunc:={ fid:=169,mode:=.opn,nparams:=2,nboxes:=0,clr:=[],results:=[.tmp 4 true,.tmp 5 false],body:=
 (.seq (.g [.o 4 .move [.const .nilSl],.m 5 (.b false)] [4,5]) (.seq (.seq (.g [.m 6 (.t 0),
 .o 7 (.eqv .ptr false) [.t 6,.const .nilPtr],.m 8 (.t 7),.z 9 .move [.t 1] 8,.z 10 (.bin .lss) [.t 9,.i 1] 8,
 .o 11 .pick [.t 8,.b true,.t 10],.m 12 (.t 11),.z 13 .move [.t 1] 12,.z 14 .move [.t 0] 12,.z 15 .nilCheck [.t 14] 12,
 .z 16 (.fieldAddr 0) [.T 15] 12,.z 17 (.load false 1 false) [.T 16] 12,.z 18 (.len .sl) [.T 17] 12,.z 19 (.bin .gtr) [.t 13,.t 18] 12,
 .o 20 .pick [.t 12,.b true,.t 19]] [6,7,8,9,10,11,12,13,14,15,16,17,18,19]) (.cond (.T 20) [0,1] (.seq (.g [.o 4 .move [.const .nilSl],
 .m 5 (.b false)] []) .ret) [] .skip)) (.seq (.g [.m 21 (.t 0),.o 22 .nilCheck [.t 21],.f 23 0 (.T 22),
 .d 24 (.T 23),.m 25 (.t 1),.o 26 (.bin .sub) [.t 25,.i 1],.o 27 (.indexAddr 1) [.T 24,.t 26],
 .d 28 (.T 27),.m 4 (.T 28),.m 5 (.b true)] [0,1,21,25,26]) .ret))) }
def s170:SFunc:={ fid:=170,mode:=.opn,nparams:=2,nboxes:=0,clr:=[],results:=[.tmp 4 false],body:=
 (.seq (.g [.m 4 (.i 0)] [4]) (.seq (.r [.m 5 (.t 0),.m 6 (.t 0),.o 7 .nilCheck [.t 6],
 .f 8 0 (.T 7),.d 9 (.T 8),.m 10 (.t 1),.o 11 (.makeSl 1 8 [.i 0] true) [.t 10,.t 10],
 .o 12 (.litM 1 1 [.nilSl] [0]) [.T 11],.o 13 (.appendM 1 24) [.T 9,.T 12],.o 14 .nilCheck [.t 5],.f 15 0 (.T 14),
 .n (.store 1) [.T 15,.T 13]] (some [(4,6),(4,7)]) [1,5,6,10]) (.seq (.g [.m 16 (.t 0),.o 17 .nilCheck [.t 16],.f 18 0 (.T 17),
 .d 19 (.T 18),.o 20 (.len .sl) [.T 19],.m 4 (.t 20)] [0,16,20]) .ret))) }
def s171:SFunc:={ fid:=171,mode:=.pure,nparams:=1,nboxes:=0,clr:=[],results:=[.tmp 2 false],body:=
 (.seq (.g [.m 2 (.i 0)] [2]) (.seq (.seq (.g [.m 3 (.t 0)] [0]) (.cond (.T 3) [] (.seq (.g [
 .m 2 (.i 1)] []) .ret) [] .skip)) (.seq (.g [.m 2 (.i 0)] []) .ret))) }
def s172:SFunc:={ fid:=172,mode:=.scp,nparams:=2,nboxes:=1,clr:=[],results:=[.tmp 3 false],body:=
 (.seq (.g [.o 2 (.boxF 0 6) [.T 0],.m 3 (.b false)] [3]) (.seq (.g [.f 4 0 (.t 2),
 .l 5 0 (.t 4),.f 6 2 (.T 1),.d 7 (.T 6),.o 8 (.bin .eql) [.t 5,.t 7],
 .m 3 (.t 8)] [2,4,5,7,8]) .ret)) }
def s173_l0:SCode:=
 (.seq (.g [.o 9 (.bin .lss) [.t 8,.t 7]] []) (.seq (.cond (.T 9) [] .skip [0,1,7,8] (.exit 0)) (.seq (.block 1 (.seq (.g [.m 10 (.t 8),
 .m 5 (.t 10)] [10]) (.seq (.g [.m 11 (.t 1),.m 12 (.t 0),.m 13 (.t 5),.o 14 (.indexAddr 4) [.T 12,.t 13],
 .o 15 (.load true 4 false) [.T 14],.o 16 .callV [.t 11,.t 15]] [11,13,15]) (.cond (.T 16) [0,1,7,8] (.seq (.g [.m 17 (.t 5),
 .m 4 (.t 17)] [5,17]) .ret) [5] .skip)))) (.g [.o 18 (.bin .add) [.t 8,.i 1],.m 8 (.t 18)] [18]))))
def s173:SFunc:={ fid:=173,mode:=.scp,nparams:=2,nboxes:=0,clr:=[],results:=[.tmp 4 false],body:=
 (.seq (.g [.m 4 (.i 0)] [4]) (.seq (.seq (.g [.m 6 (.t 0),.o 7 (.len .sl) [.T 6],
 .m 8 (.i 0)] []) (.block 0 (.loop s173_l0))) (.seq (.g [.o 4 .move [.const (.i (-1))]] []) .ret))) }
def s174:SFunc:={ fid:=174,mode:=.scp,nparams:=2,nboxes:=1,clr:=[],results:=[.tmp 3 false],body:=
 (.seq (.g [.o 2 (.boxF 0 4) [.t 0],.m 3 (.b false)] [0,3]) (.seq (.g [.f 4 0 (.t 2),
 .l 5 0 (.t 4),.d 6 (.T 1),.o 7 (.bin .eql) [.t 5,.t 6],.m 3 (.t 7)] [2,4,5,6,7]) .ret)) }
def tbl:List (Option SFunc):=[none,none,none,none,none,none,none,none,none,some s9,some s10,none,some s12,none,some s14,none,none,some s17,some s18,some s19,some s20,some s21,some s22,some s23,some s24,some s25,some s26,some s27,some s28,some s29,some s30,some s31,none,none,none,none,none,none,none,some s39,some s40,some s41,some s42,some s43,some s44,some s45,some s46,some s47,some s48,some s49,none,none,none,none,none,none,none,none,some s58,some s59,some s60,some s61,some s62,some s63,some s64,some s65,some s66,some s67,some s68,some s69,some s70,some s71,some s72,some s73,some s74,some s75,some s76,some s77,some s78,none,none,none,none,none,none,none,none,none,none,none,some s90,some s91,some s92,some s93,some s94,some s95,some s96,some s97,some s98,some s99,some s100,some s101,none,none,none,none,none,none,none,none,none,none,none,some s113,some s114,some s115,some s116,some s117,some s118,some s119,some s120,some s121,some s122,some s123,some s124,some s125,none,none,none,none,none,none,none,none,none,none,none,some s137,some s138,some s139,some s140,some s141,some s142,some s143,some s144,some s145,some s146,some s147,some s148,some s149,some s150,some s151,some s152,some s153,some s154,some s155,some s156,none,none,none,none,some s161,some s162,some s163,some s164,some s165,some s166,some s167,some s168,some s169,some s170,some s171,some s172,some s173,some s174,none,none,none,none,none,none,none,none,none,none,none,none,none,none,none,none,none]
def vtbl:List (Option SFunc):=[]
def S:Nat->Option SFunc:=tabS tbl vtbl
end Code11
