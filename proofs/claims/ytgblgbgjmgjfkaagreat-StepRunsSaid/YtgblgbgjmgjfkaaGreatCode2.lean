/- The annotated code of the loaded program,printed by wip/tools/gen.py. -/
import Derived.Test.YtgblgbgjmgjfkaaGreatCode1

set_option maxRecDepth 100000
namespace Code14z
open Ax Go
def s163:SFunc:={ fid:=163,mode:=.pure,nparams:=1,nboxes:=3,clr:=[],results:=[.tmp 2 false],body:=
 (.seq (.g [.o 1 (.boxF 0 19) [.T 0],.m 2 (.b false)] [2]) (.seq (.g [.f 5 13 (.t 1),
 .o 6 (.loadF 0 true 6 false) [.t 5],.o 3 (.allocF 1 [.i 0,.i 0,.i 0,.i 0,.i 0,.nilSl]) [],
 .n (.storeF 1 6) [.t 3,.T 6]] [5]) (.seq (.seq (.g [.f 7 0 (.t 3),.l 8 1 (.t 7)] [7]) (.block 0 (.seq
 (.g [.o 10 (.bin .eql) [.t 8,.i 1],.m 9 (.t 10)] [10]) (.cond (.T 9) [8] (.seq (.g [
 .o 11 (.loadF 0 true 19 false) [.t 1],.f 12 1 (.t 3),.l 13 1 (.t 12),.o 14 (.lit 1 1 [.i 0] [0]) [.t 13],
 .c 15 171 [.T 11,.T 14],.m 16 (.t 15),.z 17 (.loadF 0 true 19 false) [.t 1] 16,.z 18 (.fieldAddr 1) [.t 3] 16,
 .z 19 (.loadF 1 false 1 false) [.t 18] 16,.z 20 (.lit 1 1 [.i 0] [0]) [.t 19] 16,.z 21 (.call 172) [.T 17,.T 20] 16,.z 22 .move [.t 21] 16,
 .y 23 (.fieldAddr 4) [.t 3] 22,.y 24 (.loadF 1 false 1 false) [.t 23] 22,.y 25 (.bin .eql) [.t 24,.i 0] 22,.y 26 .move [.t 25] 22,
 .z 27 (.fieldAddr 4) [.t 3] 26,.z 28 (.loadF 1 false 1 false) [.t 27] 26,.z 29 (.bin .eql) [.t 28,.i 1] 26,
 .y 30 .pick [.t 26,.b true,.t 29] 22,.z 31 .pick [.t 22,.t 30,.b false] 16,.o 32 .pick [.t 16,.b true,.t 31],
 .m 2 (.t 32)] [1,3,12,13,15,16,17,18,19,20,21,22,23,24,25,26,27,28,29,30,31,32]) .ret) [] (.seq (.g [
 .o 34 (.bin .eql) [.t 8,.i 2],.m 33 (.t 34)] [34]) (.cond (.T 33) [8] (.seq (.g [.o 35 (.loadF 0 true 19 false) [.t 1],
 .f 36 1 (.t 3),.l 37 1 (.t 36),.c 38 173 [.T 35,.t 37],.c 39 105 [.t 38],
 .m 2 (.t 39)] [1,3,36,37,38,39]) .ret) [] (.seq (.g [.o 41 (.bin .eql) [.t 8,.i 3],.m 40 (.t 41)] [41])
 (.cond (.T 40) [8] (.seq (.r [.o 42 (.loadF 0 true 19 false) [.t 1],.o 43 (.loadF 0 true 19 false) [.t 1],.f 44 1 (.t 3),
 .l 45 1 (.t 44),.c 46 173 [.T 43,.t 45],.f 47 2 (.t 3),.l 48 1 (.t 47),
 .o 49 (.lit 1 1 [.i 0] [0]) [.t 48],.c 50 174 [.T 42,.t 46,.T 49],.m 2 (.t 50)] (some []) [1,3,44,45,46,47,48,50]) .ret) [] (.seq
 (.g [.o 52 (.bin .eql) [.t 8,.i 4],.m 51 (.t 52)] [52]) (.cond (.T 51) [3,8] (.seq (.g [
 .o 53 (.loadF 0 true 19 false) [.t 1],.c 54 175 [.T 53],.m 2 (.t 54)] [1,54]) .ret) [] (.seq (.g [
 .o 56 (.bin .eql) [.t 8,.i 5],.m 55 (.t 56)] [56]) (.cond (.T 55) [8] (.seq (.g [.f 57 4 (.t 3),
 .l 58 1 (.t 57),.o 59 (.bin .eql) [.t 58,.i 12],.m 60 (.t 59),.y 61 (.loadF 0 true 19 false) [.t 1] 60,
 .y 62 (.fieldAddr 1) [.t 3] 60,.y 63 (.loadF 1 false 1 false) [.t 62] 60,.y 64 (.fieldAddr 2) [.t 3] 60,.y 65 (.loadF 1 false 1 false) [.t 64] 60,
 .y 66 (.lit 1 2 [.i 0] [0,1]) [.t 63,.t 65] 60,.y 67 (.call 171) [.T 61,.T 66] 60,.o 68 .pick [.t 60,.t 67,.b false],
 .m 69 (.t 68),.z 70 (.fieldAddr 4) [.t 3] 69,.z 71 (.loadF 1 false 1 false) [.t 70] 69,.z 72 (.bin .eql) [.t 71,.i 13] 69,
 .z 73 .move [.t 72] 69,.y 74 (.loadF 0 true 19 false) [.t 1] 73,.y 75 (.fieldAddr 1) [.t 3] 73,.y 76 (.loadF 1 false 1 false) [.t 75] 73,
 .y 77 (.fieldAddr 2) [.t 3] 73,.y 78 (.loadF 1 false 1 false) [.t 77] 73,.y 79 (.lit 1 2 [.i 0] [0,1]) [.t 76,.t 78] 73,
 .y 80 (.call 172) [.T 74,.T 79] 73,.z 81 .pick [.t 73,.t 80,.b false] 69,.o 82 .pick [.t 69,.b true,.t 81],
 .m 2 (.t 82)] [1,3,57,58,59,60,61,62,63,64,65,66,67,68,69,70,71,72,73,74,75,76,77,78,79,80,81,82]) .ret) [] (.seq (.g [
 .o 84 (.bin .eql) [.t 8,.i 6],.m 83 (.t 84)] [84]) (.cond (.T 83) [8] (.seq (.g [.o 85 (.loadF 0 true 19 false) [.t 1],
 .f 86 2 (.t 3),.l 87 1 (.t 86),.f 88 3 (.t 3),.l 89 1 (.t 88),
 .f 90 1 (.t 3),.l 91 1 (.t 90),.c 92 176 [.T 85,.t 87,.t 89,.t 91],
 .m 2 (.t 92)] [1,3,86,87,88,89,90,91,92]) .ret) [] (.seq (.g [.o 94 (.bin .eql) [.t 8,.i 7],.m 93 (.t 94)] [94])
 (.cond (.T 93) [8] (.seq (.g [.o 95 (.loadF 0 true 19 false) [.t 1],.f 96 1 (.t 3),.l 97 1 (.t 96),
 .f 98 3 (.t 3),.l 99 1 (.t 98),.f 100 2 (.t 3),.l 101 1 (.t 100),
 .c 102 176 [.T 95,.t 97,.t 99,.t 101],.m 2 (.t 102)] [1,3,96,97,98,99,100,101,102]) .ret) [] (.seq (.g [
 .o 104 (.bin .eql) [.t 8,.i 8],.m 103 (.t 104)] [104]) (.cond (.T 103) [8] (.seq (.g [
 .o 105 (.loadF 0 true 19 false) [.t 1],.f 106 2 (.t 3),.l 107 1 (.t 106),.f 108 1 (.t 3),
 .l 109 1 (.t 108),.c 110 177 [.T 105,.t 107,.t 109],.m 111 (.t 110),.y 112 (.loadF 0 true 19 false) [.t 1] 111,
 .y 113 (.fieldAddr 3) [.t 3] 111,.y 114 (.loadF 1 false 1 false) [.t 113] 111,.y 115 (.lit 1 1 [.i 0] [0]) [.t 114] 111,
 .y 116 (.call 171) [.T 112,.T 115] 111,.o 117 .pick [.t 111,.t 116,.b false],
 .m 2 (.t 117)] [1,3,106,107,108,109,110,111,112,113,114,115,116,117]) .ret) [] (.seq (.g [.o 119 (.bin .eql) [.t 8,.i 9],
 .m 118 (.t 119)] [119]) (.cond (.T 118) [8] (.seq (.g [.o 120 (.loadF 0 true 19 false) [.t 1],.f 121 1 (.t 3),
 .l 122 1 (.t 121),.f 123 3 (.t 3),.l 124 1 (.t 123),.c 125 177 [.T 120,.t 122,.t 124],
 .m 126 (.t 125),.y 127 (.loadF 0 true 19 false) [.t 1] 126,.y 128 (.fieldAddr 2) [.t 3] 126,.y 129 (.loadF 1 false 1 false) [.t 128] 126,
 .y 130 (.lit 1 1 [.i 0] [0]) [.t 129] 126,.y 131 (.call 171) [.T 127,.T 130] 126,.o 132 .pick [.t 126,.t 131,.b false],
 .m 2 (.t 132)] [1,3,121,122,123,124,125,126,127,128,129,130,131,132]) .ret) [] (.seq (.g [.o 134 (.bin .eql) [.t 8,.i 10],
 .m 133 (.t 134)] [134]) (.cond (.T 133) [8] (.seq (.g [.o 135 (.loadF 0 true 19 false) [.t 1],.f 136 1 (.t 3),
 .l 137 1 (.t 136),.o 138 (.lit 1 1 [.i 0] [0]) [.t 137],.c 139 171 [.T 135,.T 138],.m 140 (.t 139),
 .y 141 (.loadF 0 true 19 false) [.t 1] 140,.y 142 (.fieldAddr 2) [.t 3] 140,.y 143 (.loadF 1 false 1 false) [.t 142] 140,
 .y 144 (.call 173) [.T 141,.t 143] 140,.y 145 (.field 2 1 false) [.t 144] 140,.y 146 (.bin .gtr) [.t 145,.i 0] 140,
 .o 147 .pick [.t 140,.t 146,.b false],.m 2 (.t 147)] [1,3,136,137,139,140,141,142,143,144,145,146,147]) .ret) [] (.seq (.g [
 .o 149 (.bin .eql) [.t 8,.i 11],.m 148 (.t 149)] [149]) (.cond (.T 148) [8] (.seq (.g [
 .o 150 (.loadF 0 true 19 false) [.t 1],.f 151 1 (.t 3),.l 152 1 (.t 151),.c 153 173 [.T 150,.t 152],
 .o 4 (.allocF 2 [.i 0,.i 0,.i 0]) [],.n (.storeF 2 3) [.t 4,.t 153]] [151,152,153]) (.seq (.g [.f 154 0 (.t 4),
 .l 155 2 (.t 154),.o 156 (.bin .eql) [.t 155,.i 3],.m 157 (.t 156),.y 158 (.fieldAddr 2) [.t 4] 157,
 .y 159 (.loadF 2 false 1 false) [.t 158] 157,.y 160 (.bin .eql) [.t 159,.i 0] 157,.o 161 .pick [.t 157,.t 160,.b false],
 .m 162 (.t 161),.y 163 (.loadF 0 true 19 false) [.t 1] 162,.y 164 (.fieldAddr 4) [.t 3] 162,.y 165 (.loadF 1 false 1 false) [.t 164] 162,
 .y 166 (.fieldAddr 1) [.t 3] 162,.y 167 (.loadF 1 false 1 false) [.t 166] 162,.y 168 (.call 178) [.T 163,.t 165,.t 167] 162,
 .o 169 .pick [.t 162,.t 168,.b false],.m 2 (.t 169)] [1,3,4,154,155,156,157,158,159,160,161,162,163,164,165,166,167,168,169])
 .ret)) [] (.seq (.g [.o 171 (.bin .eql) [.t 8,.i 12],.m 170 (.t 171)] [8,171]) (.cond (.T 170) [] (.seq (.g [
 .o 172 (.loadF 0 true 19 false) [.t 1],.f 173 1 (.t 3),.l 174 1 (.t 173),.c 175 173 [.T 172,.t 174],
 .o 176 (.field 2 1 false) [.t 175],.o 177 (.bin .gtr) [.t 176,.i 0],.m 178 (.t 177),.y 179 (.loadF 0 true 19 false) [.t 1] 178,
 .y 180 (.fieldAddr 4) [.t 3] 178,.y 181 (.loadF 1 false 1 false) [.t 180] 178,.y 182 (.fieldAddr 1) [.t 3] 178,
 .y 183 (.loadF 1 false 1 false) [.t 182] 178,.y 184 (.call 178) [.T 179,.t 181,.t 183] 178,.o 185 .pick [.t 178,.t 184,.b false],
 .m 186 (.t 185),.y 187 (.loadF 0 true 19 false) [.t 1] 186,.y 188 (.fieldAddr 2) [.t 3] 186,.y 189 (.loadF 1 false 1 false) [.t 188] 186,
 .y 190 (.lit 1 1 [.i 0] [0]) [.t 189] 186,.y 191 (.call 171) [.T 187,.T 190] 186,.o 192 .pick [.t 186,.t 191,.b false],
 .m 2 (.t 192)] [1,3,173,174,175,176,177,178,179,180,181,182,183,184,185,186,187,188,189,190,191,192]) .ret) [3] .skip))))))))))))))))))))))))))
 (.seq (.g [.o 193 (.loadF 0 true 19 false) [.t 1],.c 194 179 [.T 193],.m 2 (.t 194)] [1,194]) .ret)))) }
def s170:SFunc:={ fid:=170,mode:=.pure,nparams:=5,nboxes:=1,clr:=[],results:=[.tmp 10 false],body:=
 (.seq (.g [.o 5 (.boxF 0 6) [.T 0],.m 10 (.b false)] [10]) (.seq (.g [.m 11 (.t 1),.m 12 (.t 11),
 .z 13 (.fieldAddr 1) [.t 5] 12,.z 14 (.loadF 0 false 1 false) [.t 13] 12,.z 15 (.bin .eql) [.t 14,.i 0] 12,
 .o 16 .pick [.t 12,.b true,.t 15],.m 17 (.t 16),.y 18 .move [.t 2] 17,.y 19 .move [.t 18] 17,.z 20 (.fieldAddr 2) [.t 5] 19,
 .z 21 (.loadF 0 false 1 false) [.t 20] 19,.z 22 (.bin .eql) [.t 21,.i 0] 19,.y 23 .pick [.t 19,.b true,.t 22] 17,
 .o 24 .pick [.t 17,.t 23,.b false],.m 25 (.t 24),.y 26 .move [.t 3] 25,.y 27 .move [.t 26] 25,.z 28 (.fieldAddr 3) [.t 5] 27,
 .z 29 (.loadF 0 false 1 false) [.t 28] 27,.z 30 (.bin .eql) [.t 29,.i 0] 27,.y 31 .pick [.t 27,.b true,.t 30] 25,
 .o 32 .pick [.t 25,.t 31,.b false],.m 33 (.t 32),.y 34 .move [.t 4] 33,.y 35 .move [.t 34] 33,.z 36 (.fieldAddr 4) [.t 5] 35,
 .z 37 (.loadF 0 false 1 false) [.t 36] 35,.z 38 (.bin .eql) [.t 37,.i 0] 35,.y 39 .pick [.t 35,.b true,.t 38] 33,
 .o 40 .pick [.t 33,.t 39,.b false],.m 41 (.t 40),.y 42 (.fieldAddr 0) [.t 5] 41,.y 43 (.loadF 0 false 1 false) [.t 42] 41,
 .y 44 (.bin .eql) [.t 43,.i 13] 41,.y 45 .move [.t 44] 41,.z 46 (.fieldAddr 5) [.t 5] 45,.z 47 (.loadF 0 false 1 false) [.t 46] 45,
 .z 48 (.len .sl) [.T 47] 45,.z 49 (.bin .eql) [.t 48,.i 0] 45,.y 50 .pick [.t 45,.b true,.t 49] 41,
 .o 51 .pick [.t 41,.t 50,.b false],
 .m 10 (.t 51)] [1,2,3,4,5,11,12,13,14,15,16,17,18,19,20,21,22,23,24,25,26,27,28,29,30,31,32,33,34,35,36,37,38,39,40,41,42,43,44,45,46,47,48,49,50,51])
 .ret)) }
def s171:SFunc:={ fid:=171,mode:=.pure,nparams:=2,nboxes:=1,clr:=[],results:=[.tmp 4 false],body:=
 (.seq (.g [.o 2 (.boxF 0 19) [.T 0],.m 4 (.b false)] [4]) (.seq (.g [.o 5 (.loadF 0 true 19 false) [.t 2],
 .o 6 (.build [.i 0,.i 0,.i 0] [(0,1)]) [.i 1],.m 7 (.T 1),.c 8 174 [.T 5,.t 6,.T 7],
 .m 4 (.t 8)] [2,6,8]) .ret)) }
def s172:SFunc:={ fid:=172,mode:=.pure,nparams:=2,nboxes:=1,clr:=[],results:=[.tmp 4 false],body:=
 (.seq (.g [.o 2 (.boxF 0 19) [.T 0],.m 4 (.b false)] [4]) (.seq (.g [.o 5 (.loadF 0 true 19 false) [.t 2],
 .o 6 (.build [.i 0,.i 0,.i 0] [(0,1)]) [.i 2],.m 7 (.T 1),.c 8 174 [.T 5,.t 6,.T 7],
 .m 4 (.t 8)] [2,6,8]) .ret)) }
def s173:SFunc:={ fid:=173,mode:=.pure,nparams:=2,nboxes:=2,clr:=[],results:=[.box 4 1 3 true],body:=
 (.seq (.g [.o 2 (.boxF 0 19) [.T 0],.o 4 (.allocF 1 [.i 0,.i 0,.i 0]) []] []) (.seq (.seq (.g [.m 5 (.t 1),
 .o 6 (.bin .lss) [.t 5,.i 0],.m 7 (.t 6),.z 8 .move [.t 1] 7,.z 9 (.fieldAddr 6) [.t 2] 7,.z 10 (.fieldAddr 1) [.t 9] 7,
 .z 11 (.loadF 0 false 1 false) [.t 10] 7,.z 12 (.len .sl) [.T 11] 7,.z 13 (.bin .geq) [.t 8,.t 12] 7,
 .o 14 .pick [.t 7,.b true,.t 13]] [5,6,7,8,9,10,11,12,13]) (.cond (.T 14) [1,2] (.seq (.g [.c 15 140 [],
 .n (.storeF 1 3) [.t 4,.t 15]] [15]) .ret) [] .skip)) (.seq (.g [.f 16 6 (.t 2),.f 17 1 (.t 16),
 .l 18 0 (.t 17),.m 19 (.t 1),.o 20 (.indexAddr 3) [.T 18,.t 19],.o 21 (.load true 3 false) [.T 20],
 .n (.storeF 1 3) [.t 4,.t 21]] [1,2,16,17,19,21]) .ret))) }
def s174_l0:SCode:=
 (.seq (.g [.o 12 (.bin .lss) [.t 11,.t 10]] []) (.seq (.cond (.T 12) [] .skip [3,9,10,11] (.exit 0)) (.seq (.block 1 (.seq (.g [
 .o 13 (.indexAddr 1) [.t 9,.t 11],.d 14 (.T 13),.m 8 (.t 14)] [14]) (.seq (.r [.o 15 (.loadF 0 true 19 false) [.t 3],
 .m 16 (.t 8),.c 17 173 [.T 15,.t 16],.o 18 (.loadF 1 true 3 false) [.t 4],
 .o 19 (.eqv (.flat [.int,.int,.int]) true) [.t 17,.t 18]] (some []) [8,16,17,18]) (.cond (.T 19) [3,4,9,10,11] (.seq (.g [
 .m 6 (.b false)] []) .ret) [] .skip)))) (.g [.o 20 (.bin .add) [.t 11,.i 1],.m 11 (.t 20)] [20]))))
def s174:SFunc:={ fid:=174,mode:=.pure,nparams:=3,nboxes:=2,clr:=[],results:=[.tmp 6 false],body:=
 (.seq (.g [.o 3 (.boxF 0 19) [.T 0],.o 4 (.boxF 1 3) [.t 1],.m 6 (.b false)] [1,6]) (.seq (.seq (.g [.m 9 (.T 2),
 .o 10 (.len .sl) [.t 9],.m 11 (.i 0)] []) (.block 0 (.loop s174_l0))) (.seq (.r [.o 21 (.loadF 1 true 3 false) [.t 4],
 .c 22 140 [],.o 23 (.eqv (.flat [.int,.int,.int]) true) [.t 21,.t 22],.m 6 (.t 23)] (some []) [4,21,22,23]) .ret))) }
def s175:SFunc:={ fid:=175,mode:=.pure,nparams:=1,nboxes:=2,clr:=[],results:=[.tmp 2 false],body:=
 (.seq (.g [.o 1 (.boxF 0 19) [.T 0],.m 2 (.b false)] [2]) (.seq (.g [.f 4 13 (.t 1),
 .o 5 (.loadF 0 true 6 false) [.t 4],.o 3 (.allocF 1 [.i 0,.i 0,.i 0,.i 0,.i 0,.nilSl]) [],
 .n (.storeF 1 6) [.t 3,.T 5]] [4]) (.seq (.seq (.g [.f 6 4 (.t 3),.l 7 1 (.t 6)] [6]) (.block 0 (.seq
 (.seq (.g [.o 9 (.bin .eql) [.t 7,.i 14],.m 8 (.t 9)] [9]) (.cond (.t 8) [] .skip [8] (.seq (.g [
 .o 10 (.bin .eql) [.t 7,.i 15],.m 8 (.t 10)] [10]) (.cond (.t 8) [] .skip [8] (.seq (.g [
 .o 11 (.bin .eql) [.t 7,.i 16],.m 8 (.t 11)] [11]) (.cond (.t 8) [] .skip [8] (.seq (.g [
 .o 12 (.bin .eql) [.t 7,.i 17],.m 8 (.t 12)] [12]) (.cond (.t 8) [] .skip [8] (.g [
 .o 13 (.bin .eql) [.t 7,.i 18],.m 8 (.t 13)] [13]))))))))) (.cond (.T 8) [7] (.seq (.g [
 .o 14 (.loadF 0 true 19 false) [.t 1],.f 15 1 (.t 3),.l 16 1 (.t 15),.f 17 2 (.t 3),
 .l 18 1 (.t 17),.f 19 3 (.t 3),.l 20 1 (.t 19),
 .o 21 (.lit 1 3 [.i 0] [0,1,2]) [.t 16,.t 18,.t 20],.c 22 171 [.T 14,.T 21],.m 2 (.t 22)] [1,3,15,16,17,18,19,20,22]) .ret) []
 (.seq (.seq (.g [.o 24 (.bin .eql) [.t 7,.i 19],.m 23 (.t 24)] [24]) (.cond (.t 23) [] .skip [23] (.g [
 .o 25 (.bin .eql) [.t 7,.i 20],.m 23 (.t 25)] [25]))) (.cond (.T 23) [7] (.seq (.g [.o 26 (.loadF 0 true 19 false) [.t 1],
 .f 27 1 (.t 3),.l 28 1 (.t 27),.o 29 (.lit 1 1 [.i 0] [0]) [.t 28],.c 30 172 [.T 26,.T 29],
 .m 31 (.t 30),.y 32 (.loadF 0 true 19 false) [.t 1] 31,.y 33 (.fieldAddr 2) [.t 3] 31,.y 34 (.loadF 1 false 1 false) [.t 33] 31,
 .y 35 (.fieldAddr 3) [.t 3] 31,.y 36 (.loadF 1 false 1 false) [.t 35] 31,.y 37 (.lit 1 2 [.i 0] [0,1]) [.t 34,.t 36] 31,
 .y 38 (.call 171) [.T 32,.T 37] 31,.o 39 .pick [.t 31,.t 38,.b false],.m 2 (.t 39)] [1,3,27,28,30,31,32,33,34,35,36,37,38,39])
 .ret) [] (.seq (.seq (.g [.o 41 (.bin .eql) [.t 7,.i 21],.m 40 (.t 41)] [41]) (.cond (.t 40) [] .skip [40] (.g [
 .o 42 (.bin .eql) [.t 7,.i 22],.m 40 (.t 42)] [42]))) (.cond (.T 40) [7] (.seq (.r [.o 43 (.loadF 0 true 19 false) [.t 1],
 .f 44 1 (.t 3),.l 45 1 (.t 44),.o 46 (.lit 1 1 [.i 0] [0]) [.t 45],.c 47 172 [.T 43,.T 46],
 .m 48 (.t 47),.y 49 (.loadF 0 true 19 false) [.t 1] 48,.y 50 (.loadF 0 true 19 false) [.t 1] 48,.y 51 (.fieldAddr 2) [.t 3] 48,
 .y 52 (.loadF 1 false 1 false) [.t 51] 48,.y 53 (.call 173) [.T 50,.t 52] 48,.y 54 (.fieldAddr 3) [.t 3] 48,.y 55 (.loadF 1 false 1 false) [.t 54] 48,
 .y 56 (.lit 1 1 [.i 0] [0]) [.t 55] 48,.y 57 (.call 174) [.T 49,.t 53,.T 56] 48,.o 58 .pick [.t 48,.t 57,.b false],
 .m 2 (.t 58)] (some []) [1,3,44,45,47,48,49,50,51,52,53,54,55,56,57,58]) .ret) [] (.seq (.seq (.g [.o 60 (.bin .eql) [.t 7,.i 23],
 .m 59 (.t 60)] [60]) (.cond (.t 59) [7] .skip [59] (.g [.o 61 (.bin .eql) [.t 7,.i 24],.m 59 (.t 61)] [7,61])))
 (.cond (.T 59) [] (.seq (.g [.o 62 (.loadF 0 true 19 false) [.t 1],.f 63 1 (.t 3),.l 64 1 (.t 63),
 .f 65 2 (.t 3),.l 66 1 (.t 65),.f 67 3 (.t 3),.l 68 1 (.t 67),
 .o 69 (.lit 1 3 [.i 0] [0,1,2]) [.t 64,.t 66,.t 68],.c 70 172 [.T 62,.T 69],.m 2 (.t 70)] [1,3,63,64,65,66,67,68,70]) .ret) [1,3]
 .skip)))))))))) (.seq (.g [.m 2 (.b false)] []) .ret)))) }
def s176:SFunc:={ fid:=176,mode:=.pure,nparams:=4,nboxes:=2,clr:=[],results:=[.tmp 8 false],body:=
 (.seq (.g [.o 4 (.boxF 0 19) [.T 0],.m 8 (.b false)] [8]) (.seq (.g [.o 11 (.loadF 0 true 19 false) [.t 4],
 .m 12 (.t 1),.c 13 173 [.T 11,.t 12],.o 9 (.allocF 1 [.i 0,.i 0,.i 0]) [],.n (.storeF 1 3) [.t 9,.t 13]] [1,12,13])
 (.seq (.seq (.g [.f 14 0 (.t 9),.l 15 1 (.t 14),.o 16 (.bin .neq) [.t 15,.i 3],
 .m 17 (.t 16),.z 18 (.fieldAddr 2) [.t 9] 17,.z 19 (.loadF 1 false 1 false) [.t 18] 17,.z 20 (.bin .neq) [.t 19,.i 0] 17,
 .o 21 .pick [.t 17,.b true,.t 20],.m 22 (.t 21),.z 23 (.fieldAddr 1) [.t 9] 22,.z 24 (.loadF 1 false 1 false) [.t 23] 22,
 .z 25 (.bin .lss) [.t 24,.i 0] 22,.o 26 .pick [.t 22,.b true,.t 25],.m 27 (.t 26),.z 28 (.fieldAddr 1) [.t 9] 27,
 .z 29 (.loadF 1 false 1 false) [.t 28] 27,.z 30 (.fieldAddr 0) [.t 4] 27,.z 31 (.fieldAddr 0) [.t 30] 27,.z 32 (.loadF 0 false 1 false) [.t 31] 27,
 .z 33 (.len .sl) [.T 32] 27,.z 34 (.bin .geq) [.t 29,.t 33] 27,
 .o 35 .pick [.t 27,.b true,.t 34]] [14,15,16,17,18,19,20,21,22,23,24,25,26,27,28,29,30,31,32,33,34]) (.cond (.T 35) [2,3,4,9] (.seq
 (.g [.m 8 (.b false)] []) .ret) [] .skip)) (.seq (.g [.f 36 0 (.t 4),.f 37 0 (.t 36),
 .l 38 0 (.t 37),.f 39 1 (.t 9),.l 40 1 (.t 39),.o 41 (.indexAddr 2) [.T 38,.t 40],
 .f 42 1 (.T 41),.d 43 (.T 42),.m 10 (.T 43)] [9,36,37,39,40]) (.seq (.r [.m 44 (.t 2),
 .o 45 (.bin .geq) [.t 44,.i 0],.m 46 (.t 45),.y 47 .move [.t 2] 46,.y 48 .move [.t 10] 46,.y 49 (.len .sl) [.T 48] 46,
 .y 50 (.bin .lss) [.t 47,.t 49] 46,.o 51 .pick [.t 46,.t 50,.b false],.m 52 (.t 51),.y 53 (.loadF 0 true 19 false) [.t 4] 52,
 .y 54 .move [.t 10] 52,.y 55 .move [.t 2] 52,.y 56 (.indexAddr 4) [.T 54,.t 55] 52,.y 57 (.fieldAddr 1) [.T 56] 52,.y 58 (.load true 3 false) [.T 57] 52,
 .y 59 .move [.t 3] 52,.y 60 (.lit 1 1 [.i 0] [0]) [.t 59] 52,.y 61 (.call 174) [.T 53,.t 58,.T 60] 52,
 .o 62 .pick [.t 52,.t 61,.b false],.m 8 (.t 62)] (some []) [2,3,4,10,44,45,46,47,48,49,50,51,52,53,54,55,56,57,58,59,60,61,62]) .ret))))) }
def s177:SFunc:={ fid:=177,mode:=.pure,nparams:=3,nboxes:=2,clr:=[],results:=[.tmp 6 false],body:=
 (.seq (.g [.o 3 (.boxF 0 19) [.T 0],.m 6 (.b false)] [6]) (.seq (.g [.o 8 (.loadF 0 true 19 false) [.t 3],
 .m 9 (.t 1),.c 10 173 [.T 8,.t 9],.o 7 (.allocF 1 [.i 0,.i 0,.i 0]) [],.n (.storeF 1 3) [.t 7,.t 10]] [1,9,10])
 (.seq (.seq (.g [.f 11 2 (.t 7),.l 12 1 (.t 11),.o 13 (.bin .leq) [.t 12,.i 0]] [11,12])
 (.cond (.T 13) [2,3,7] (.seq (.g [.m 6 (.b false)] []) .ret) [] .skip)) (.seq (.g [.f 14 2 (.t 7),
 .l 15 1 (.t 14),.o 16 (.bin .sub) [.t 15,.i 1],.f 17 2 (.t 7),
 .n (.storeF 1 1) [.t 17,.t 16]] [14,15,16,17]) (.seq (.g [.o 18 (.loadF 0 true 19 false) [.t 3],.o 19 (.loadF 1 true 3 false) [.t 7],
 .m 20 (.t 2),.o 21 (.lit 1 1 [.i 0] [0]) [.t 20],.c 22 174 [.T 18,.t 19,.T 21],.m 6 (.t 22)] [2,3,7,19,20,22]) .ret))))) }
def s178:SFunc:={ fid:=178,mode:=.pure,nparams:=3,nboxes:=1,clr:=[],results:=[.tmp 6 false],body:=
 (.seq (.g [.o 3 (.boxF 0 19) [.T 0],.m 6 (.b false)] [6]) (.seq (.r [.m 7 (.t 1),
 .o 8 (.bin .geq) [.t 7,.i 0],.m 9 (.t 8),.y 10 .move [.t 1] 9,.y 11 (.fieldAddr 0) [.t 3] 9,.y 12 (.fieldAddr 3) [.t 11] 9,
 .y 13 (.loadF 0 false 1 false) [.t 12] 9,.y 14 (.len .sl) [.T 13] 9,.y 15 (.bin .lss) [.t 10,.t 14] 9,.o 16 .pick [.t 9,.t 15,.b false],
 .m 17 (.t 16),.y 18 (.fieldAddr 0) [.t 3] 17,.y 19 (.fieldAddr 3) [.t 18] 17,.y 20 (.loadF 0 false 1 false) [.t 19] 17,.y 21 .move [.t 1] 17,
 .y 22 (.indexAddr 4) [.T 20,.t 21] 17,.y 23 (.fieldAddr 0) [.T 22] 17,.y 24 (.load false 1 false) [.T 23] 17,.y 25 (.fieldAddr 5) [.t 3] 17,
 .y 26 (.loadF 0 false 1 false) [.t 25] 17,.y 27 (.bin .eql) [.t 24,.t 26] 17,.o 28 .pick [.t 17,.t 27,.b false],.m 29 (.t 28),
 .y 30 (.loadF 0 true 19 false) [.t 3] 29,.y 31 (.fieldAddr 0) [.t 3] 29,.y 32 (.fieldAddr 3) [.t 31] 29,.y 33 (.loadF 0 false 1 false) [.t 32] 29,
 .y 34 .move [.t 1] 29,.y 35 (.indexAddr 4) [.T 33,.t 34] 29,.y 36 (.fieldAddr 1) [.T 35] 29,.y 37 (.load true 3 false) [.T 36] 29,.y 38 .move [.t 2] 29,
 .y 39 (.lit 1 1 [.i 0] [0]) [.t 38] 29,.y 40 (.call 174) [.T 30,.t 37,.T 39] 29,.o 41 .pick [.t 29,.t 40,.b false],
 .m 6 (.t 41)] (some []) [1,2,3,7,8,9,10,11,12,13,14,15,16,17,18,19,20,21,22,23,24,25,26,27,28,29,30,31,32,33,34,35,36,37,38,39,40,41]) .ret)) }
def s179:SFunc:={ fid:=179,mode:=.pure,nparams:=1,nboxes:=2,clr:=[],results:=[.tmp 2 false],body:=
 (.seq (.g [.o 1 (.boxF 0 19) [.T 0],.m 2 (.b false)] [2]) (.seq (.g [.f 4 13 (.t 1),
 .o 5 (.loadF 0 true 6 false) [.t 4],.o 3 (.allocF 1 [.i 0,.i 0,.i 0,.i 0,.i 0,.nilSl]) [],
 .n (.storeF 1 6) [.t 3,.T 5]] [4]) (.seq (.seq (.g [.f 6 0 (.t 3),.l 7 1 (.t 6)] [6]) (.block 0 (.seq
 (.g [.o 9 (.bin .eql) [.t 7,.i 13],.m 8 (.t 9)] [9]) (.cond (.T 8) [3,7] (.seq (.g [
 .o 10 (.loadF 0 true 19 false) [.t 1],.c 11 183 [.T 10],.m 2 (.t 11)] [1,11]) .ret) [] (.seq (.seq (.g [
 .o 13 (.bin .eql) [.t 7,.i 14],.m 12 (.t 13)] [13]) (.cond (.t 12) [] .skip [12] (.g [
 .o 14 (.bin .eql) [.t 7,.i 15],.m 12 (.t 14)] [14]))) (.cond (.T 12) [7] (.seq (.g [.o 15 (.loadF 0 true 19 false) [.t 1],
 .f 16 1 (.t 3),.l 17 1 (.t 16),.o 18 (.lit 1 1 [.i 0] [0]) [.t 17],.c 19 171 [.T 15,.T 18],
 .m 2 (.t 19)] [1,3,16,17,19]) .ret) [] (.seq (.g [.o 21 (.bin .eql) [.t 7,.i 16],.m 20 (.t 21)] [21])
 (.cond (.T 20) [7] (.seq (.g [.o 22 (.loadF 0 true 19 false) [.t 1],.f 23 4 (.t 3),.l 24 1 (.t 23),
 .c 25 184 [.T 22,.t 24],.m 2 (.t 25)] [1,3,23,24,25]) .ret) [] (.seq (.g [.o 27 (.bin .eql) [.t 7,.i 17],
 .m 26 (.t 27)] [27]) (.cond (.T 26) [7] (.seq (.g [.o 28 (.loadF 0 true 19 false) [.t 1],.f 29 1 (.t 3),
 .l 30 1 (.t 29),.o 31 (.lit 1 1 [.i 0] [0]) [.t 30],.c 32 172 [.T 28,.T 31],.m 33 (.t 32),
 .y 34 (.loadF 0 true 19 false) [.t 1] 33,.y 35 (.fieldAddr 4) [.t 3] 33,.y 36 (.loadF 1 false 1 false) [.t 35] 33,.y 37 (.call 184) [.T 34,.t 36] 33,
 .o 38 .pick [.t 33,.t 37,.b false],.m 39 (.t 38),.y 40 (.loadF 0 true 19 false) [.t 1] 39,.y 41 (.fieldAddr 3) [.t 3] 39,
 .y 42 (.loadF 1 false 1 false) [.t 41] 39,.y 43 (.call 184) [.T 40,.t 42] 39,.o 44 .pick [.t 39,.t 43,.b false],
 .m 2 (.t 44)] [1,3,29,30,32,33,34,35,36,37,38,39,40,41,42,43,44]) .ret) [] (.seq (.g [.o 46 (.bin .eql) [.t 7,.i 18],
 .m 45 (.t 46)] [7,46]) (.cond (.T 45) [] (.seq (.g [.f 47 6 (.t 1),.f 48 2 (.t 47),
 .l 49 0 (.t 48),.m 50 (.t 49),.y 51 (.loadF 0 true 19 false) [.t 1] 50,.y 52 (.fieldAddr 6) [.t 1] 50,
 .y 53 (.fieldAddr 3) [.t 52] 50,.y 54 (.loadF 0 true 3 false) [.t 53] 50,.y 55 (.fieldAddr 1) [.t 3] 50,.y 56 (.loadF 1 false 1 false) [.t 55] 50,
 .y 57 (.lit 1 1 [.i 0] [0]) [.t 56] 50,.y 58 (.call 174) [.T 51,.t 54,.T 57] 50,.o 59 .pick [.t 50,.t 58,.b false],.m 60 (.t 59),
 .z 61 (.fieldAddr 6) [.t 1] 60,.z 62 (.fieldAddr 2) [.t 61] 60,.z 63 (.loadF 0 false 1 false) [.t 62] 60,.z 64 (.un .not) [.t 63] 60,
 .z 65 .move [.t 64] 60,.y 66 (.fieldAddr 1) [.t 3] 65,.y 67 (.loadF 1 false 1 false) [.t 66] 65,.y 68 (.bin .eql) [.t 67,.const (.i (-1))] 65,
 .z 69 .pick [.t 65,.t 68,.b false] 60,.o 70 .pick [.t 60,.b true,.t 69],
 .m 2 (.t 70)] [1,3,47,48,49,50,51,52,53,54,55,56,57,58,59,60,61,62,63,64,65,66,67,68,69,70]) .ret) [] .skip)))))))))))) (.seq (.g [
 .o 71 (.loadF 0 true 19 false) [.t 1],.f 72 4 (.t 3),.l 73 1 (.t 72),.f 74 1 (.t 3),
 .l 75 1 (.t 74),.c 76 185 [.T 71,.t 73,.t 75],.m 2 (.t 76)] [1,3,72,73,74,75,76]) .ret)))) }
def s183_l0:SCode:=
 (.seq (.g [.o 46 (.bin .lss) [.t 45,.t 44]] []) (.seq (.cond (.T 46) [] .skip [43,44,45] (.exit 0)) (.seq (.block 1 (.seq (.g [
 .m 47 (.t 45),.o 48 (.indexAddr 1) [.t 43,.t 45],.d 49 (.T 48),.m 5 (.t 47),.m 6 (.t 49)] [47,49]) (.seq
 (.r [.o 50 (.loadF 0 true 19 false) [.t 1],.f 51 1 (.t 4),.l 52 2 (.t 51),.m 53 (.t 5),
 .o 54 (.indexAddr 3) [.T 52,.t 53],.o 55 (.load true 3 false) [.T 54],.m 56 (.t 6),.o 57 (.lit 1 1 [.i 0] [0]) [.t 56],
 .c 58 174 [.T 50,.t 55,.T 57],.o 59 (.un .not) [.t 58]] (some []) [5,6,51,53,55,56,58]) (.cond (.T 59) [1,3,4,43,44,45] (.seq (.g [
 .m 2 (.b false)] []) .ret) [] .skip)))) (.g [.o 60 (.bin .add) [.t 45,.i 1],.m 45 (.t 60)] [60]))))
def s183:SFunc:={ fid:=183,mode:=.pure,nparams:=1,nboxes:=3,clr:=[],results:=[.tmp 2 false],body:=
 (.seq (.g [.o 1 (.boxF 0 19) [.T 0],.m 2 (.b false)] [2]) (.seq (.g [.f 7 13 (.t 1),
 .o 8 (.loadF 0 true 6 false) [.t 7],.o 3 (.allocF 1 [.i 0,.i 0,.i 0,.i 0,.i 0,.nilSl]) [],
 .n (.storeF 1 6) [.t 3,.T 8]] [7]) (.seq (.seq (.g [.f 9 3 (.t 3),.l 10 1 (.t 9),
 .o 11 (.bin .lss) [.t 10,.i 0],.m 12 (.t 11),.z 13 (.fieldAddr 3) [.t 3] 12,.z 14 (.loadF 1 false 1 false) [.t 13] 12,
 .z 15 (.fieldAddr 0) [.t 1] 12,.z 16 (.fieldAddr 2) [.t 15] 12,.z 17 (.loadF 0 false 1 false) [.t 16] 12,.z 18 (.len .sl) [.T 17] 12,
 .z 19 (.bin .geq) [.t 14,.t 18] 12,.o 20 .pick [.t 12,.b true,.t 19]] [9,10,11,12,13,14,15,16,17,18,19]) (.cond (.T 20) [1,3] (.seq
 (.g [.m 2 (.b false)] []) .ret) [] .skip)) (.seq (.g [.f 21 0 (.t 1),.f 22 2 (.t 21),
 .l 23 0 (.t 22),.f 24 3 (.t 3),.l 25 1 (.t 24),.o 26 (.indexAddr 7) [.T 23,.t 25],
 .o 27 (.load true 7 false) [.T 26],.o 4 (.allocF 2 [.i 0,.nilSl,.bool false,.i 0,.i 0,.i 0,.nilSl]) [],
 .n (.storeF 2 7) [.t 4,.T 27]] [21,22,24,25]) (.seq (.seq (.g [.f 28 5 (.t 3),.l 29 1 (.t 28),
 .o 30 (.len .sl) [.T 29],.f 31 0 (.t 4),.l 32 2 (.t 31),.o 33 (.bin .neq) [.t 30,.t 32],.m 34 (.t 33),
 .z 35 (.fieldAddr 0) [.t 4] 34,.z 36 (.loadF 2 false 1 false) [.t 35] 34,.z 37 (.fieldAddr 1) [.t 4] 34,.z 38 (.loadF 2 false 1 false) [.t 37] 34,
 .z 39 (.len .sl) [.T 38] 34,.z 40 (.bin .gtr) [.t 36,.t 39] 34,.o 41 .pick [.t 34,.b true,.t 40]] [28,30,31,32,33,34,35,36,37,38,39,40])
 (.cond (.T 41) [1,3,4] (.seq (.g [.m 2 (.b false)] []) .ret) [] .skip)) (.seq (.seq (.g [.f 42 5 (.t 3),
 .l 43 1 (.t 42),.o 44 (.len .sl) [.t 43],.m 45 (.i 0)] [42]) (.block 0 (.loop s183_l0))) (.seq (.g [
 .f 61 1 (.t 3),.l 62 1 (.t 61),.o 63 (.bin .eql) [.t 62,.const (.i (-1))],.m 64 (.t 63),
 .z 65 (.fieldAddr 2) [.t 4] 64,.z 66 (.loadF 2 false 1 false) [.t 65] 64,.z 67 .move [.t 66] 64,.y 68 (.loadF 0 true 19 false) [.t 1] 67,
 .y 69 (.fieldAddr 3) [.t 4] 67,.y 70 (.loadF 2 true 3 false) [.t 69] 67,.y 71 (.fieldAddr 1) [.t 3] 67,.y 72 (.loadF 1 false 1 false) [.t 71] 67,
 .y 73 (.lit 1 1 [.i 0] [0]) [.t 72] 67,.y 74 (.call 174) [.T 68,.t 70,.T 73] 67,.z 75 .pick [.t 67,.t 74,.b false] 64,
 .o 76 .pick [.t 64,.b true,.t 75],.m 2 (.t 76)] [1,3,4,61,62,63,64,65,66,67,68,69,70,71,72,73,74,75,76]) .ret))))))) }
def s184:SFunc:={ fid:=184,mode:=.pure,nparams:=2,nboxes:=1,clr:=[],results:=[.tmp 4 false],body:=
 (.seq (.g [.o 2 (.boxF 0 19) [.T 0],.m 4 (.b false)] [4]) (.seq (.g [.m 5 (.t 1),
 .o 6 (.bin .geq) [.t 5,.i 0],.m 7 (.t 6),.y 8 .move [.t 1] 7,.y 9 (.fieldAddr 6) [.t 2] 7,.y 10 (.fieldAddr 6) [.t 9] 7,
 .y 11 (.loadF 0 false 1 false) [.t 10] 7,.y 12 (.len .sl) [.T 11] 7,.y 13 (.bin .lss) [.t 8,.t 12] 7,.o 14 .pick [.t 7,.t 13,.b false],
 .m 4 (.t 14)] [1,2,5,6,7,8,9,10,11,12,13,14]) .ret)) }
def s185:SFunc:={ fid:=185,mode:=.pure,nparams:=3,nboxes:=1,clr:=[],results:=[.tmp 6 false],body:=
 (.seq (.g [.o 3 (.boxF 0 19) [.T 0],.m 6 (.b false)] [6]) (.seq (.r [.m 7 (.t 1),
 .o 8 (.bin .geq) [.t 7,.i 0],.m 9 (.t 8),.y 10 .move [.t 1] 9,.y 11 (.fieldAddr 0) [.t 3] 9,.y 12 (.fieldAddr 1) [.t 11] 9,
 .y 13 (.loadF 0 false 1 false) [.t 12] 9,.y 14 (.len .sl) [.T 13] 9,.y 15 (.bin .lss) [.t 10,.t 14] 9,.o 16 .pick [.t 9,.t 15,.b false],
 .m 17 (.t 16),.y 18 (.loadF 0 true 19 false) [.t 3] 17,.y 19 (.fieldAddr 0) [.t 3] 17,.y 20 (.fieldAddr 1) [.t 19] 17,
 .y 21 (.loadF 0 false 1 false) [.t 20] 17,.y 22 .move [.t 1] 17,.y 23 (.indexAddr 3) [.T 21,.t 22] 17,.y 24 (.load true 3 false) [.T 23] 17,
 .y 25 .move [.t 2] 17,.y 26 (.lit 1 1 [.i 0] [0]) [.t 25] 17,.y 27 (.call 174) [.T 18,.t 24,.T 26] 17,
 .o 28 .pick [.t 17,.t 27,.b false],.m 6 (.t 28)] (some []) [1,2,3,7,8,9,10,11,12,13,14,15,16,17,18,19,20,21,22,23,24,25,26,27,28]) .ret)) }
def tbl:List (Option SFunc):=[none,none,none,some s3,none,none,some s6,some s7,some s8,some s9,some s10,none,none,none,none,some s15,some s16,some s17,some s18,some s19,some s20,some s21,some s22,some s23,some s24,none,none,none,none,none,none,none,none,none,none,none,none,none,none,none,none,none,some s42,some s43,some s44,some s45,some s46,some s47,some s48,some s49,some s50,some s51,some s52,some s53,some s54,some s55,some s56,some s57,some s58,some s59,some s60,some s61,some s62,some s63,some s64,some s65,some s66,some s67,some s68,some s69,some s70,some s71,some s72,some s73,some s74,some s75,some s76,some s77,some s78,some s79,some s80,none,none,none,none,none,none,none,none,none,none,none,none,none,none,some s95,some s96,some s97,some s98,some s99,some s100,some s101,some s102,some s103,some s104,some s105,some s106,some s107,some s108,some s109,some s110,some s111,some s112,some s113,some s114,some s115,some s116,some s117,some s118,some s119,some s120,none,none,none,none,none,none,none,none,none,none,none,none,none,none,none,none,none,none,none,some s140,some s141,some s142,some s143,some s144,some s145,some s146,none,none,none,none,none,none,none,none,none,none,none,none,none,none,none,some s162,some s163,none,none,none,none,none,none,some s170,some s171,some s172,some s173,some s174,some s175,some s176,some s177,some s178,some s179,none,none,none,some s183,some s184,some s185,none,none,none,none,none,none,none,none,none,none,none,none,none,none,none,none,none,none,none,none]
def vtbl:List (Option SFunc):=[]
def S:Nat->Option SFunc:=tabS tbl vtbl
end Code14z
