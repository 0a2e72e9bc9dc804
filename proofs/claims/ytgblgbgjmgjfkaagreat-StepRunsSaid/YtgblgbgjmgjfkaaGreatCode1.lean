/- The annotated code of the loaded program,printed by wip/tools/gen.py. -/
import Derived.Test.YtgblgbgjmgjfkaaGreatA6

set_option maxRecDepth 100000
namespace Code14z
open Ax Go
def s3:SFunc:={ fid:=3,mode:=.pure,nparams:=3,nboxes:=1,clr:=[],results:=[.tmp 6 false],body:=
 (.seq (.g [.o 3 (.boxF 0 5) [.T 0],.m 6 (.b false)] [6]) (.seq (.seq (.g [.o 7 (.loadF 0 true 5 false) [.t 3],
 .c 8 6 [.T 7],.m 9 (.t 8),.z 10 .move [.t 1] 9,.z 11 (.len .sl) [.T 10] 9,.z 12 (.bin .gtr) [.t 11,.i 100] 9,
 .o 13 .pick [.t 9,.b true,.t 12],.m 14 (.t 13),.z 15 .move [.t 2] 14,.z 16 (.bin .gtr) [.t 15,.i 20000] 14,
 .o 17 .pick [.t 14,.b true,.t 16]] [8,9,10,11,12,13,14,15,16]) (.cond (.T 17) [1,2,3] (.seq (.g [
 .m 6 (.b true)] []) .ret) [] .skip)) (.seq (.r [.o 18 (.loadF 0 true 5 false) [.t 3],.m 19 (.t 1),.m 20 (.t 2),
 .c 21 8 [.T 18,.T 19,.t 20],.o 22 (.loadF 0 true 5 false) [.t 3],.m 23 (.t 1),.m 24 (.t 2),.c 25 9 [.T 22,.T 23,.t 24],
 .c 26 7 [.T 21,.T 25],.m 27 (.t 26),.y 28 (.call 10) [] 27,.o 29 .pick [.t 27,.t 28,.b false],
 .m 6 (.t 29)] (some []) [1,2,3,20,24,26,27,28,29]) .ret))) }
def s6_l0:SCode:=
 (.seq (.seq (.g [.m 26 (.t 3),.f 27 2 (.t 1),.l 28 0 (.t 27),.o 29 (.len .sl) [.T 28],
 .o 30 (.bin .lss) [.t 26,.t 29]] [26,27,29]) (.cond (.T 30) [] .skip [1,3] (.exit 0))) (.seq (.block 1 (.seq (.g [.f 33 2 (.t 1),
 .l 34 0 (.t 33),.m 35 (.t 3),.o 36 (.indexAddr 7) [.T 34,.t 35],.f 37 1 (.T 36),
 .d 38 (.T 37),.o 39 (.len .sl) [.T 38],.o 40 (.bin .gtr) [.t 39,.i 500],.m 41 (.t 40),
 .z 42 (.fieldAddr 2) [.t 1] 41,.z 43 (.loadF 0 false 1 false) [.t 42] 41,.z 44 .move [.t 3] 41,.z 45 (.indexAddr 7) [.T 43,.t 44] 41,
 .z 46 (.fieldAddr 6) [.T 45] 41,.z 47 (.load false 1 false) [.T 46] 41,.z 48 (.len .sl) [.T 47] 41,.z 49 (.bin .gtr) [.t 48,.i 500] 41,
 .o 50 .pick [.t 41,.b true,.t 49]] [33,35,39,40,41,42,43,44,45,46,47,48,49]) (.cond (.T 50) [1,3] (.seq (.g [
 .m 2 (.b true)] []) .ret) [] .skip))) (.g [.m 31 (.t 3),.o 32 (.bin .add) [.t 31,.i 1],
 .m 3 (.t 32)] [31,32])))
def s6:SFunc:={ fid:=6,mode:=.pure,nparams:=1,nboxes:=1,clr:=[],results:=[.tmp 2 false],body:=
 (.seq (.g [.o 1 (.boxF 0 5) [.T 0],.m 2 (.b false)] [2]) (.seq (.seq (.g [.f 4 0 (.t 1),
 .l 5 0 (.t 4),.o 6 (.len .sl) [.T 5],.o 7 (.bin .gtr) [.t 6,.i 20],.m 8 (.t 7),.z 9 (.fieldAddr 1) [.t 1] 8,
 .z 10 (.loadF 0 false 1 false) [.t 9] 8,.z 11 (.len .sl) [.T 10] 8,.z 12 (.bin .gtr) [.t 11,.i 20] 8,
 .o 13 .pick [.t 8,.b true,.t 12],.m 14 (.t 13),.z 15 (.fieldAddr 2) [.t 1] 14,.z 16 (.loadF 0 false 1 false) [.t 15] 14,
 .z 17 (.len .sl) [.T 16] 14,.z 18 (.bin .gtr) [.t 17,.i 20] 14,.o 19 .pick [.t 14,.b true,.t 18],.m 20 (.t 19),
 .z 21 (.fieldAddr 3) [.t 1] 20,.z 22 (.loadF 0 false 1 false) [.t 21] 20,.z 23 (.len .sl) [.T 22] 20,.z 24 (.bin .gtr) [.t 23,.i 80] 20,
 .o 25 .pick [.t 20,.b true,.t 24]] [4,6,7,8,9,10,11,12,13,14,15,16,17,18,19,20,21,22,23,24]) (.cond (.T 25) [1] (.seq (.g [
 .m 2 (.b true)] []) .ret) [] .skip)) (.seq (.seq (.g [.m 3 (.i 0)] []) (.block 0 (.loop s6_l0))) (.seq
 (.g [.m 2 (.b false)] []) .ret)))) }
def s7:SFunc:={ fid:=7,mode:=.pure,nparams:=2,nboxes:=2,clr:=[],results:=[.tmp 4 false],body:=
 (.seq (.g [.o 2 (.boxF 0 4) [.T 0],.o 3 (.boxF 1 4) [.T 1],.m 4 (.b false)] [4]) (.seq (.g [.f 5 0 (.t 2),
 .l 6 0 (.t 5),.f 7 0 (.t 3),.l 8 1 (.t 7),.o 9 (.bin .eql) [.t 6,.t 8],.m 10 (.t 9),
 .y 11 (.fieldAddr 1) [.t 2] 10,.y 12 (.loadF 0 false 1 false) [.t 11] 10,.y 13 (.fieldAddr 1) [.t 3] 10,.y 14 (.loadF 1 false 1 false) [.t 13] 10,
 .y 15 (.bin .eql) [.t 12,.t 14] 10,.o 16 .pick [.t 10,.t 15,.b false],.m 17 (.t 16),.y 18 (.fieldAddr 3) [.t 2] 17,
 .y 19 (.loadF 0 false 1 false) [.t 18] 17,.y 20 (.fieldAddr 3) [.t 3] 17,.y 21 (.loadF 1 false 1 false) [.t 20] 17,.y 22 (.bin .eql) [.t 19,.t 21] 17,
 .o 23 .pick [.t 17,.t 22,.b false],.m 24 (.t 23),.y 25 (.fieldAddr 2) [.t 2] 24,.y 26 (.loadF 0 false 1 false) [.t 25] 24,
 .y 27 (.fieldAddr 2) [.t 3] 24,.y 28 (.loadF 1 false 1 false) [.t 27] 24,.y 29 (.call 15) [.T 26,.T 28] 24,.o 30 .pick [.t 24,.t 29,.b false],
 .m 4 (.t 30)] [2,3,5,6,7,8,9,10,11,12,13,14,15,16,17,18,19,20,21,22,23,24,25,26,27,28,29,30]) .ret)) }
def s8_l0:SCode:=
 (.seq (.g [.o 29 (.bin .lss) [.t 28,.t 27]] []) (.seq (.cond (.T 29) [] .skip [27,28] (.exit 0)) (.seq (.block 1 (.seq (.g [
 .m 30 (.t 28),.m 8 (.t 30)] [30]) (.r [.m 31 (.t 7),.m 32 (.t 7),.o 33 .nilCheck [.t 32],.f 34 5 (.T 33),
 .o 35 (.load false 1 true) [.T 34],.o 36 (.loadF 0 true 5 false) [.t 3],.m 37 (.t 8),.c 38 20 [.T 36,.t 37],.o 39 (.len .sl) [.T 38],
 .o 40 (.lit 1 1 [.i 0] [0]) [.t 39],.o 41 (.append 1 8) [.T 35,.T 40],.o 42 .nilCheck [.t 31],.f 43 5 (.T 42),
 .n (.store 1) [.T 43,.T 41]] (some [(7,4),(8,4)]) [8,31,32,37,39]))) (.g [.o 44 (.bin .add) [.t 28,.i 1],
 .m 28 (.t 44)] [44]))))
def s8_l1:SCode:=
 (.seq (.seq (.g [.m 58 (.t 7),.o 59 .nilCheck [.t 58],.f 60 11 (.T 59),.f 61 0 (.T 60),
 .d 62 (.T 61),.o 63 (.bin .eql) [.t 62,.i 0]] [58,62]) (.cond (.T 63) [] .skip [2,3] (.exit 2))) (.block 3 (.seq
 (.seq (.g [.m 64 (.t 7),.o 65 .nilCheck [.t 64],.f 66 11 (.T 65),.f 67 3 (.T 66),
 .d 68 (.T 67),.m 69 (.t 2),.o 70 (.minmax true) [.t 69,.i 0],
 .o 71 (.bin .geq) [.t 68,.t 70]] [64,68,69,70]) (.cond (.T 71) [2,3] (.seq (.g [.m 72 (.t 7),.o 73 .nilCheck [.t 72],
 .f 74 11 (.T 73),.f 75 0 (.T 74),.n (.store 1) [.T 75,.i 3]] [72]) (.exit 2)) [] .skip)) (.seq (.g [
 .m 76 (.t 7),.o 77 .nilCheck [.t 76],.f 78 11 (.T 77),.f 79 3 (.T 78),.d 80 (.T 79),
 .o 81 (.bin .add) [.t 80,.i 1],.o 82 .nilCheck [.t 76],.f 83 11 (.T 82),.f 84 3 (.T 83),
 .n (.store 1) [.T 84,.t 81]] [76,80,81]) (.seq (.g [.m 85 (.t 7),.c 86 22 [.t 85],.m 9 (.t 86)] [85,86]) (.seq
 (.r [.f 87 2 (.t 3),.l 88 0 (.t 87),.m 89 (.t 9),.o 90 .nilCheck [.t 89],.f 91 0 (.T 90),
 .d 92 (.T 91),.o 93 (.indexAddr 7) [.T 88,.t 92],.f 94 6 (.T 93),.d 95 (.T 94),
 .m 96 (.t 9),.o 97 .nilCheck [.t 96],.f 98 1 (.T 97),.d 99 (.T 98),.o 100 (.indexAddr 6) [.T 95,.t 99],
 .o 101 (.load true 6 false) [.T 100],.o 10 (.allocF 2 [.i 0,.i 0,.i 0,.i 0,.i 0,.nilSl]) [],
 .n (.storeF 2 6) [.t 10,.T 101]] (some []) [87,89,92,96,99]) (.seq (.g [.m 102 (.t 9),.o 103 .nilCheck [.t 102],.f 104 1 (.T 103),
 .d 105 (.T 104),.o 106 (.bin .add) [.t 105,.i 1],.o 107 .nilCheck [.t 102],.f 108 1 (.T 107),
 .n (.store 1) [.T 108,.t 106]] [9,102,105,106]) (.r [.m 109 (.t 7),.o 110 .nilCheck [.t 109],.f 111 10 (.T 110),
 .d 112 (.T 111),.f 113 0 (.t 10),.l 114 2 (.t 113),
 .o 115 (.lookup .int .nilFn false) [.t 112,.t 114],.m 116 (.t 7),.o 117 (.loadF 2 true 6 false) [.t 10],
 .o 118 .callV [.t 115,.t 116,.T 117]] (some []) [10,109,112,113,114,115,116,118]))))))))
def s8:SFunc:={ fid:=8,mode:=.pure,nparams:=3,nboxes:=3,clr:=[],results:=[.box 6 1 4 true],body:=
 (.seq (.g [.o 3 (.boxF 0 5) [.T 0],.o 6 (.allocF 1 [.i 0,.i 0,.nilSl,.i 0]) []] []) (.seq (.seq (.g [
 .o 11 (.loadF 0 true 5 false) [.t 3],.c 12 17 [.T 11],.o 13 (.un .not) [.t 12]] [12]) (.cond (.T 13) [1,2,3] (.seq (.g [
 .o 14 (.build [.i 0,.i 0,.nilSl,.i 0] []) [],.n (.storeF 1 4) [.t 6,.T 14]] []) .ret) [] .skip)) (.seq (.r [
 .o 15 (.loadF 0 true 5 false) [.t 3],.c 16 18 [],.m 17 (.T 1),.f 18 1 (.t 3),.l 19 0 (.t 18),
 .o 20 (.len .sl) [.T 19],.o 21 (.makeRaw 1 8 [.i 0]) [.t 20,.t 20],.c 22 19 [],
 .o 23 (.build [.nilSl,.nilSl,.nilSl,.nilSl,.i 0,.nilSl,.nilPtr,.nilSl,.nilSl,.nilSl,.nilMap,.i 0,.i 0,.nilSl,.i 0] [(0,5),(6,1),(7,1),(8,1),(10,1)]) [.T 15,.t 16,.T 17,.T 21,.t 22],
 .o 24 (.box 15) [.T 23],.m 7 (.t 24)] (some [(5,1),(5,7)]) [16,18,20,22,24]) (.seq (.seq (.seq (.frzH 7 8) (.g [.f 25 3 (.t 3),
 .l 26 0 (.t 25),.o 27 (.len .sl) [.T 26],.m 28 (.i 0)] [25])) (.block 0 (.loop s8_l0))) (.seq (.r [
 .m 45 (.t 7),.m 46 (.t 7),.o 47 .nilCheck [.t 46],.f 48 9 (.T 47),.d 49 (.T 48),.m 50 (.t 7),
 .f 51 4 (.t 3),.l 52 0 (.t 51),.c 53 21 [.t 50,.t 52,.const (.i (-1))],
 .o 54 (.litM 1 1 [.nilPtr] [0]) [.t 53],.o 55 (.appendM 1 8) [.T 49,.T 54],.o 56 .nilCheck [.t 45],.f 57 9 (.T 56),
 .n (.store 1) [.T 57,.T 55]] (some [(4,8),(4,9)]) [45,46,50,51,52,53]) (.seq (.block 2 (.loop s8_l1)) (.seq (.seq (.frzH 7 13) (.g [.m 119 (.t 7),
 .o 120 .nilCheck [.t 119],.f 121 11 (.T 120),.o 122 (.load true 4 false) [.T 121],.n (.storeF 1 4) [.t 6,.T 122]] [7,119])) .ret))))))) }
def s9_l0:SCode:=
 (.seq (.seq (.g [.m 24 (.t 7),.o 25 .nilCheck [.t 24],.f 26 9 (.T 25),.f 27 0 (.T 26),
 .d 28 (.T 27),.o 29 (.bin .eql) [.t 28,.i 0]] [24,28]) (.cond (.T 29) [] .skip [2] (.exit 0))) (.block 1 (.seq
 (.seq (.g [.m 30 (.t 7),.o 31 .nilCheck [.t 30],.f 32 9 (.T 31),.f 33 3 (.T 32),.d 34 (.T 33),
 .m 35 (.t 2),.o 36 (.minmax true) [.t 35,.i 0],.o 37 (.bin .geq) [.t 34,.t 36]] [30,34,35,36]) (.cond (.T 37) [2] (.seq
 (.g [.m 38 (.t 7),.o 39 .nilCheck [.t 38],.f 40 9 (.T 39),.f 41 0 (.T 40),
 .n (.store 1) [.T 41,.i 3]] [38]) (.exit 0)) [] .skip)) (.seq (.g [.m 42 (.t 7),.o 43 .nilCheck [.t 42],
 .f 44 9 (.T 43),.f 45 3 (.T 44),.d 46 (.T 45),.o 47 (.bin .add) [.t 46,.i 1],
 .o 48 .nilCheck [.t 42],.f 49 9 (.T 48),.f 50 3 (.T 49),.n (.store 1) [.T 50,.t 47]] [42,46,47]) (.g [
 .m 51 (.t 7),.c 52 24 [.t 51]] [51,52])))))
def s9:SFunc:={ fid:=9,mode:=.pure,nparams:=3,nboxes:=2,clr:=[],results:=[.box 6 1 4 true],body:=
 (.seq (.g [.o 3 (.boxF 0 5) [.T 0],.o 6 (.allocF 1 [.i 0,.i 0,.nilSl,.i 0]) []] []) (.seq (.seq (.g [
 .o 8 (.loadF 0 true 5 false) [.t 3],.c 9 16 [.T 8],.o 10 (.un .not) [.t 9]] [9]) (.cond (.T 10) [1,2,3] (.seq (.g [
 .o 11 (.build [.i 0,.i 0,.nilSl,.i 0] []) [],.n (.storeF 1 4) [.t 6,.T 11]] []) .ret) [] .skip)) (.seq (.r [
 .o 12 (.loadF 0 true 5 false) [.t 3],.m 13 (.T 1),.f 14 1 (.t 3),.l 15 0 (.t 14),.o 16 (.len .sl) [.T 15],
 .o 17 (.makeRaw 1 8 [.i 0]) [.t 16,.t 16],
 .o 18 (.build [.nilSl,.nilSl,.nilSl,.nilSl,.i 0,.nilSl,.nilSl,.nilSl,.nilSl,.i 0,.i 0,.nilSl,.i 0] [(0,5),(5,1),(7,1)]) [.T 12,.T 13,.T 17],
 .o 19 (.box 13) [.T 18],.m 7 (.t 19)] (some []) [14,16,19]) (.seq (.seq (.frzH 7 7) (.g [.m 20 (.t 7),.f 21 4 (.t 3),
 .l 22 0 (.t 21),.c 23 23 [.t 20,.t 22,.const (.i (-1)),.const .nilSl]] [3,20,21,22,23])) (.seq (.block 0
 (.loop s9_l0)) (.seq (.seq (.frzH 7 11) (.g [.m 53 (.t 7),.o 54 .nilCheck [.t 53],.f 55 9 (.T 54),
 .o 56 (.load true 4 false) [.T 55],.n (.storeF 1 4) [.t 6,.T 56]] [7,53])) .ret)))))) }
def s10:SFunc:={ fid:=10,mode:=.pure,nparams:=0,nboxes:=2,clr:=[],results:=[.tmp 0 false],body:=
 (.seq (.g [.m 0 (.b false)] [0]) (.seq (.g [
 .o 3 (.build [.i 0,.i 0,.i 0] [(0,1)]) [.i 1],.o 4 (.lit 3 1 [.i 0,.i 0,.i 0] [0]) [.t 3],
 .o 5 (.build [.i 0,.i 0,.i 0,.i 0,.i 0,.nilSl] [(0,1),(4,1)]) [.i 1,.i 3],
 .o 6 (.build [.i 0,.i 0,.i 0,.i 0,.i 0,.nilSl] [(0,1)]) [.i 15],
 .o 7 (.build [.i 0,.i 0,.i 0,.i 0,.i 0,.nilSl] [(0,1),(1,1)]) [.i 18,.const (.i (-1))],
 .o 8 (.lit 6 3 [.i 0,.i 0,.i 0,.i 0,.i 0,.nilSl] [0,1,2]) [.T 5,.T 6,.T 7],
 .o 9 (.build [.i 0,.nilSl,.bool false,.i 0,.i 0,.i 0,.nilSl] [(1,1),(6,1)]) [.T 4,.T 8],
 .o 10 (.lit 7 1 [.i 0,.nilSl,.bool false,.i 0,.i 0,.i 0,.nilSl] [0]) [.T 9],
 .o 11 (.build [.nilSl,.nilSl,.nilSl,.nilSl,.i 0] [(2,1)]) [.T 10],.o 1 (.allocF 0 [.nilSl,.nilSl,.nilSl,.nilSl,.i 0]) [],
 .n (.storeF 0 5) [.t 1,.T 11]] [3]) (.seq (.g [.o 12 (.loadF 0 true 5 false) [.t 1],.c 13 8 [.T 12,.const .nilSl,.i 9],
 .o 2 (.allocF 1 [.i 0,.i 0,.nilSl,.i 0]) [],.n (.storeF 1 4) [.t 2,.T 13]] [1]) (.seq (.g [.f 14 0 (.t 2),
 .l 15 1 (.t 14),.o 16 (.bin .eql) [.t 15,.i 1],.m 17 (.t 16),.y 18 (.fieldAddr 2) [.t 2] 17,
 .y 19 (.loadF 1 false 1 false) [.t 18] 17,.y 20 (.len .sl) [.T 19] 17,.y 21 (.bin .eql) [.t 20,.i 1] 17,
 .o 22 .pick [.t 17,.t 21,.b false],.m 23 (.t 22),.y 24 (.fieldAddr 2) [.t 2] 23,.y 25 (.loadF 1 false 1 false) [.t 24] 23,
 .y 26 (.indexAddr 1) [.T 25,.i 0] 23,.y 27 (.load false 1 false) [.T 26] 23,.y 28 (.bin .eql) [.t 27,.i 3] 23,
 .o 29 .pick [.t 23,.t 28,.b false],.m 30 (.t 29),.y 31 (.fieldAddr 3) [.t 2] 30,.y 32 (.loadF 1 false 1 false) [.t 31] 30,
 .y 33 (.bin .eql) [.t 32,.i 3] 30,.o 34 .pick [.t 30,.t 33,.b false],
 .m 0 (.t 34)] [2,14,15,16,17,18,19,20,21,22,23,24,25,26,27,28,29,30,31,32,33,34]) .ret)))) }
def s15_l0:SCode:=
 (.seq (.seq (.g [.m 11 (.t 5),.m 12 (.t 0),.o 13 (.len .sl) [.T 12],.o 14 (.bin .lss) [.t 11,.t 13]] [11,13]) (.cond (.T 14) []
 .skip [0,1,5] (.exit 0))) (.seq (.block 1 (.seq (.r [.m 17 (.t 0),.m 18 (.t 5),.o 19 (.indexAddr 1) [.T 17,.t 18],
 .d 20 (.T 19),.m 21 (.t 1),.m 22 (.t 5),.o 23 (.indexAddr 1) [.T 21,.t 22],.d 24 (.T 23),
 .o 25 (.bin .neq) [.t 20,.t 24]] (some []) [18,20,22,24]) (.cond (.T 25) [0,1,5] (.seq (.g [.m 4 (.b false)] []) .ret) []
 .skip))) (.g [.m 15 (.t 5),.o 16 (.bin .add) [.t 15,.i 1],.m 5 (.t 16)] [15,16])))
def s15:SFunc:={ fid:=15,mode:=.pure,nparams:=2,nboxes:=0,clr:=[],results:=[.tmp 4 false],body:=
 (.seq (.g [.m 4 (.b false)] [4]) (.seq (.seq (.g [.m 6 (.t 0),.o 7 (.len .sl) [.T 6],.m 8 (.t 1),
 .o 9 (.len .sl) [.T 8],.o 10 (.bin .neq) [.t 7,.t 9]] [7,9]) (.cond (.T 10) [0,1] (.seq (.g [.m 4 (.b false)] []) .ret) []
 .skip)) (.seq (.seq (.g [.m 5 (.i 0)] []) (.block 0 (.loop s15_l0))) (.seq (.g [
 .m 4 (.b true)] []) .ret)))) }
def s16_l0:SCode:=
 (.seq (.seq (.g [.m 66 (.t 5),.m 67 (.t 4),.o 68 (.len .sl) [.T 67],.o 69 (.bin .lss) [.t 66,.t 68]] [66,68]) (.cond (.T 69) []
 .skip [4,5] (.exit 2))) (.seq (.block 3 (.seq (.r [.o 72 (.loadF 0 true 5 false) [.t 1],.m 73 (.t 4),.m 74 (.t 5),
 .o 75 (.indexAddr 4) [.T 73,.t 74],.f 76 1 (.T 75),.o 77 (.load true 3 false) [.T 76],.c 78 43 [.T 72,.t 77],
 .o 79 (.un .not) [.t 78]] (some []) [74,77,78]) (.cond (.T 79) [1,3,4,5] (.seq (.g [.m 2 (.b false)] []) .ret) [] .skip)))
 (.g [.m 70 (.t 5),.o 71 (.bin .add) [.t 70,.i 1],.m 5 (.t 71)] [70,71])))
def s16_l1:SCode:=
 (.seq (.seq (.g [.m 50 (.t 3),.f 51 0 (.t 1),.l 52 0 (.t 51),.o 53 (.len .sl) [.T 52],
 .o 54 (.bin .lss) [.t 50,.t 53]] [50,51,53]) (.cond (.T 54) [] .skip [3] (.exit 0))) (.seq (.block 1 (.seq (.g [.f 57 0 (.t 1),
 .l 58 0 (.t 57),.m 59 (.t 3),.o 60 (.indexAddr 2) [.T 58,.t 59],.f 61 1 (.T 60),
 .d 62 (.T 61),.m 4 (.T 62)] [57,59]) (.seq (.seq (.g [.m 63 (.t 4),.o 64 (.len .sl) [.T 63],
 .o 65 (.bin .gtr) [.t 64,.i 8]] [64]) (.cond (.T 65) [1,3,4] (.seq (.g [.m 2 (.b false)] []) .ret) []
 .skip)) (.seq (.g [.m 5 (.i 0)] []) (.block 2 (.loop s16_l0)))))) (.g [.m 55 (.t 3),
 .o 56 (.bin .add) [.t 55,.i 1],.m 3 (.t 56)] [55,56])))
def s16_l2:SCode:=
 (.seq (.seq (.g [.m 80 (.t 6),.f 81 3 (.t 1),.l 82 0 (.t 81),.o 83 (.len .sl) [.T 82],
 .o 84 (.bin .lss) [.t 80,.t 83]] [80,81,83]) (.cond (.T 84) [] .skip [6] (.exit 4))) (.seq (.block 5 (.seq (.g [.f 87 3 (.t 1),
 .l 88 0 (.t 87),.m 89 (.t 6),.o 90 (.indexAddr 4) [.T 88,.t 89],.o 91 (.load true 4 false) [.T 90],
 .o 7 (.allocF 1 [.i 0,.i 0,.i 0,.i 0]) [],.n (.storeF 1 4) [.t 7,.t 91]] [87,89,91]) (.seq (.g [
 .f 92 0 (.t 7),.l 93 1 (.t 92),.o 94 (.bin .lss) [.t 93,.i 0],.m 95 (.t 94),
 .z 96 (.fieldAddr 0) [.t 7] 95,.z 97 (.loadF 1 false 1 false) [.t 96] 95,.z 98 (.fieldAddr 2) [.t 1] 95,.z 99 (.loadF 0 false 1 false) [.t 98] 95,
 .z 100 (.len .sl) [.T 99] 95,.z 101 (.bin .geq) [.t 97,.t 100] 95,.o 102 .pick [.t 95,.b true,.t 101],.m 103 (.t 102),
 .z 104 (.loadF 0 true 5 false) [.t 1] 103,.z 105 (.fieldAddr 1) [.t 7] 103,.z 106 (.loadF 1 true 3 false) [.t 105] 103,
 .z 107 (.call 43) [.T 104,.t 106] 103,.z 108 (.un .not) [.t 107] 103,.o 109 .pick [.t 103,.b true,.t 108],.m 110 (.t 109),
 .z 111 (.fieldAddr 1) [.t 7] 110,.z 112 (.loadF 1 true 3 false) [.t 111] 110,.z 113 (.call 44) [.t 112] 110,.z 114 (.un .not) [.t 113] 110,
 .o 115 .pick [.t 110,.b true,.t 114]] [7,92,93,94,95,96,97,98,99,100,101,102,103,104,105,106,107,108,109,110,111,112,113,114])
 (.cond (.T 115) [1,6] (.seq (.g [.m 2 (.b false)] []) .ret) [] .skip)))) (.g [.m 85 (.t 6),
 .o 86 (.bin .add) [.t 85,.i 1],.m 6 (.t 86)] [85,86])))
def s16_l3:SCode:=
 (.seq (.seq (.g [.m 116 (.t 9),.f 117 2 (.t 1),.l 118 0 (.t 117),.o 119 (.len .sl) [.T 118],
 .o 120 (.bin .lss) [.t 116,.t 119]] [116,117,119]) (.cond (.T 120) [] .skip [8,9] (.exit 6))) (.seq (.block 7 (.seq (.g [
 .f 123 2 (.t 1),.l 124 0 (.t 123),.m 125 (.t 9),.o 126 (.indexAddr 7) [.T 124,.t 125],
 .o 127 (.load true 7 false) [.T 126],.o 10 (.allocF 2 [.i 0,.nilSl,.bool false,.i 0,.i 0,.i 0,.nilSl]) [],
 .n (.storeF 2 7) [.t 10,.T 127]] [123,125]) (.seq (.g [.m 128 (.t 8),.f 129 6 (.t 10),
 .l 130 2 (.t 129),.o 131 (.len .sl) [.T 130],.o 132 (.bin .add) [.t 128,.t 131],.m 8 (.t 132)] [128,129,131,132]) (.seq
 (.seq (.g [.f 133 1 (.t 10),.l 134 2 (.t 133),.o 135 (.len .sl) [.T 134],
 .o 136 (.bin .gtr) [.t 135,.i 4000],.m 137 (.t 136),.z 138 (.fieldAddr 0) [.t 10] 137,.z 139 (.loadF 2 false 1 false) [.t 138] 137,
 .z 140 (.bin .lss) [.t 139,.i 0] 137,.o 141 .pick [.t 137,.b true,.t 140],.m 142 (.t 141),
 .z 143 (.fieldAddr 0) [.t 10] 142,.z 144 (.loadF 2 false 1 false) [.t 143] 142,.z 145 (.bin .gtr) [.t 144,.i 6] 142,
 .o 146 .pick [.t 142,.b true,.t 145],.m 147 (.t 146),.z 148 (.fieldAddr 0) [.t 10] 147,.z 149 (.loadF 2 false 1 false) [.t 148] 147,
 .z 150 (.fieldAddr 1) [.t 10] 147,.z 151 (.loadF 2 false 1 false) [.t 150] 147,.z 152 (.len .sl) [.T 151] 147,.z 153 (.bin .gtr) [.t 149,.t 152] 147,
 .o 154 .pick [.t 147,.b true,.t 153],.m 155 (.t 154),.z 156 (.loadF 0 true 5 false) [.t 1] 155,.z 157 (.fieldAddr 1) [.t 10] 155,
 .z 158 (.loadF 2 false 1 false) [.t 157] 155,.z 159 (.call 42) [.T 156,.T 158] 155,.z 160 (.un .not) [.t 159] 155,
 .o 161 .pick [.t 155,.b true,.t 160],.m 162 (.t 161),.z 163 (.fieldAddr 6) [.t 10] 162,.z 164 (.loadF 2 false 1 false) [.t 163] 162,
 .z 165 (.len .sl) [.T 164] 162,.z 166 (.bin .lss) [.t 165,.i 1] 162,.o 167 .pick [.t 162,.b true,.t 166],.m 168 (.t 167),
 .z 169 .move [.t 8] 168,.z 170 (.bin .gtr) [.t 169,.i 2500] 168,
 .o 171 .pick [.t 168,.b true,.t 170]] [133,135,136,137,138,139,140,141,142,143,144,145,146,147,148,149,150,151,152,153,154,155,156,157,158,159,160,161,162,163,164,165,166,167,168,169,170])
 (.cond (.T 171) [1,8,9,10] (.seq (.g [.m 2 (.b false)] []) .ret) [] .skip)) (.seq (.g [.f 172 2 (.t 10),
 .l 173 2 (.t 172),.m 174 (.t 173),.y 175 (.loadF 0 true 5 false) [.t 1] 174,.y 176 (.fieldAddr 3) [.t 10] 174,
 .y 177 (.loadF 2 true 3 false) [.t 176] 174,.y 178 (.call 43) [.T 175,.t 177] 174,.y 179 (.un .not) [.t 178] 174,
 .o 180 .pick [.t 174,.t 179,.b false],.m 181 (.t 180),.z 182 (.fieldAddr 2) [.t 10] 181,.z 183 (.loadF 2 false 1 false) [.t 182] 181,
 .z 184 (.un .not) [.t 183] 181,.z 185 .move [.t 184] 181,.y 186 (.fieldAddr 3) [.t 10] 185,.y 187 (.loadF 2 true 3 false) [.t 186] 185,
 .y 188 (.build [.i 0,.i 0,.i 0] []) [] 185,.y 189 (.eqv (.flat [.int,.int,.int]) true) [.t 187,.t 188] 185,
 .z 190 .pick [.t 185,.t 189,.b false] 181,
 .o 191 .pick [.t 181,.b true,.t 190]] [10,172,173,174,175,176,177,178,179,180,181,182,183,184,185,186,187,188,189,190])
 (.cond (.T 191) [1,8,9] (.seq (.g [.m 2 (.b false)] []) .ret) [] .skip)))))) (.g [.m 121 (.t 9),
 .o 122 (.bin .add) [.t 121,.i 1],.m 9 (.t 122)] [121,122])))
def s16_l4:SCode:=
 (.seq (.seq (.g [.m 205 (.t 13),.m 206 (.t 12),.o 207 (.len .sl) [.T 206],.o 208 (.bin .lss) [.t 205,.t 207]] [205,207])
 (.cond (.T 208) [] .skip [13] (.exit 10))) (.seq (.block 11 (.seq (.r [.o 211 (.loadF 0 true 5 false) [.t 1],.m 212 (.t 11),
 .m 213 (.t 12),.m 214 (.t 13),.o 215 (.indexAddr 6) [.T 213,.t 214],.o 216 (.load true 6 false) [.T 215],
 .c 217 45 [.T 211,.t 212,.T 216],.o 218 (.un .not) [.t 217]] (some []) [212,214,217]) (.cond (.T 218) [1,11,12,13] (.seq (.g [
 .m 2 (.b false)] []) .ret) [] .skip))) (.g [.m 209 (.t 13),.o 210 (.bin .add) [.t 209,.i 1],
 .m 13 (.t 210)] [209,210])))
def s16_l5:SCode:=
 (.seq (.seq (.g [.m 192 (.t 11),.f 193 2 (.t 1),.l 194 0 (.t 193),.o 195 (.len .sl) [.T 194],
 .o 196 (.bin .lss) [.t 192,.t 195]] [192,193,195]) (.cond (.T 196) [] .skip [11] (.exit 8))) (.seq (.block 9 (.seq (.g [
 .f 199 2 (.t 1),.l 200 0 (.t 199),.m 201 (.t 11),.o 202 (.indexAddr 7) [.T 200,.t 201],
 .f 203 6 (.T 202),.d 204 (.T 203),.m 12 (.T 204)] [199,201]) (.seq (.seq (.g [
 .m 13 (.i 0)] []) (.block 10 (.loop s16_l4))) (.seq (.g [.m 219 (.t 12),.m 220 (.T 12),
 .o 221 (.len .sl) [.T 220],.o 222 (.bin .sub) [.t 221,.i 1],.o 223 (.indexAddr 6) [.T 219,.t 222],.f 224 0 (.T 223),
 .d 225 (.T 224),.m 14 (.t 225)] [221,222,225]) (.seq (.g [.m 226 (.t 14),
 .o 227 (.bin .neq) [.t 226,.i 16],.m 228 (.t 227),.y 229 .move [.t 14] 228,.y 230 (.bin .neq) [.t 229,.i 17] 228,
 .o 231 .pick [.t 228,.t 230,.b false],.m 232 (.t 231),.y 233 .move [.t 14] 232,.y 234 (.bin .neq) [.t 233,.i 18] 232,
 .o 235 .pick [.t 232,.t 234,.b false]] [14,226,227,228,229,230,231,232,233,234]) (.cond (.T 235) [1,11] (.seq (.g [
 .m 2 (.b false)] []) .ret) [] .skip)))))) (.g [.m 197 (.t 11),.o 198 (.bin .add) [.t 197,.i 1],
 .m 11 (.t 198)] [197,198])))
def s16:SFunc:={ fid:=16,mode:=.pure,nparams:=1,nboxes:=3,clr:=[],results:=[.tmp 2 false],body:=
 (.seq (.g [.o 1 (.boxF 0 5) [.T 0],.m 2 (.b false)] [2]) (.seq (.seq (.g [.f 15 0 (.t 1),
 .l 16 0 (.t 15),.o 17 (.len .sl) [.T 16],.o 18 (.bin .gtr) [.t 17,.i 12],.m 19 (.t 18),
 .z 20 (.fieldAddr 1) [.t 1] 19,.z 21 (.loadF 0 false 1 false) [.t 20] 19,.z 22 (.len .sl) [.T 21] 19,.z 23 (.bin .gtr) [.t 22,.i 8] 19,
 .o 24 .pick [.t 19,.b true,.t 23],.m 25 (.t 24),.z 26 (.fieldAddr 2) [.t 1] 25,.z 27 (.loadF 0 false 1 false) [.t 26] 25,
 .z 28 (.len .sl) [.T 27] 25,.z 29 (.bin .lss) [.t 28,.i 1] 25,.o 30 .pick [.t 25,.b true,.t 29],.m 31 (.t 30),
 .z 32 (.fieldAddr 2) [.t 1] 31,.z 33 (.loadF 0 false 1 false) [.t 32] 31,.z 34 (.len .sl) [.T 33] 31,.z 35 (.bin .gtr) [.t 34,.i 16] 31,
 .o 36 .pick [.t 31,.b true,.t 35],.m 37 (.t 36),.z 38 (.fieldAddr 3) [.t 1] 37,.z 39 (.loadF 0 false 1 false) [.t 38] 37,
 .z 40 (.len .sl) [.T 39] 37,.z 41 (.bin .gtr) [.t 40,.i 60] 37,.o 42 .pick [.t 37,.b true,.t 41],.m 43 (.t 42),
 .z 44 (.loadF 0 true 5 false) [.t 1] 43,.z 45 (.fieldAddr 1) [.t 1] 43,.z 46 (.loadF 0 false 1 false) [.t 45] 43,.z 47 (.call 42) [.T 44,.T 46] 43,
 .z 48 (.un .not) [.t 47] 43,
 .o 49 .pick [.t 43,.b true,.t 48]] [15,17,18,19,20,21,22,23,24,25,26,27,28,29,30,31,32,33,34,35,36,37,38,39,40,41,42,43,44,45,46,47,48])
 (.cond (.T 49) [1] (.seq (.g [.m 2 (.b false)] []) .ret) [] .skip)) (.seq (.seq (.g [
 .m 3 (.i 0)] []) (.block 0 (.loop s16_l1))) (.seq (.seq (.g [.m 6 (.i 0)] []) (.block 4
 (.loop s16_l2))) (.seq (.g [.m 8 (.i 0)] []) (.seq (.seq (.g [.m 9 (.i 0)] []) (.block 6
 (.loop s16_l3))) (.seq (.seq (.g [.m 11 (.i 0)] []) (.block 8 (.loop s16_l5))) (.seq (.g [.f 236 4 (.t 1),
 .l 237 0 (.t 236),.o 238 (.bin .geq) [.t 237,.i 0],.m 239 (.t 238),.y 240 (.fieldAddr 4) [.t 1] 239,
 .y 241 (.loadF 0 false 1 false) [.t 240] 239,.y 242 (.fieldAddr 2) [.t 1] 239,.y 243 (.loadF 0 false 1 false) [.t 242] 239,.y 244 (.len .sl) [.T 243] 239,
 .y 245 (.bin .lss) [.t 241,.t 244] 239,.o 246 .pick [.t 239,.t 245,.b false],.m 247 (.t 246),.y 248 (.fieldAddr 2) [.t 1] 247,
 .y 249 (.loadF 0 false 1 false) [.t 248] 247,.y 250 (.fieldAddr 4) [.t 1] 247,.y 251 (.loadF 0 false 1 false) [.t 250] 247,
 .y 252 (.indexAddr 7) [.T 249,.t 251] 247,.y 253 (.fieldAddr 0) [.T 252] 247,.y 254 (.load false 1 false) [.T 253] 247,
 .y 255 (.bin .eql) [.t 254,.i 0] 247,.o 256 .pick [.t 247,.t 255,.b false],.m 257 (.t 256),
 .y 258 (.fieldAddr 2) [.t 1] 257,.y 259 (.loadF 0 false 1 false) [.t 258] 257,.y 260 (.fieldAddr 4) [.t 1] 257,
 .y 261 (.loadF 0 false 1 false) [.t 260] 257,.y 262 (.indexAddr 7) [.T 259,.t 261] 257,.y 263 (.fieldAddr 2) [.T 262] 257,
 .y 264 (.load false 1 false) [.T 263] 257,.y 265 (.un .not) [.t 264] 257,.o 266 .pick [.t 257,.t 265,.b false],
 .m 2 (.t 266)] [1,236,237,238,239,240,241,242,243,244,245,246,247,248,249,250,251,252,253,254,255,256,257,258,259,260,261,262,263,264,265,266])
 .ret)))))))) }
def s17:SFunc:={ fid:=17,mode:=.pure,nparams:=1,nboxes:=2,clr:=[],results:=[.tmp 2 false],body:=
 (.seq (.g [.o 1 (.boxF 0 5) [.T 0],.m 2 (.b false)] [2]) (.seq (.seq (.g [.f 4 0 (.t 1),
 .l 5 0 (.t 4),.o 6 (.len .sl) [.T 5],.o 7 (.bin .gtr) [.t 6,.i 12],.m 8 (.t 7),.z 9 (.fieldAddr 1) [.t 1] 8,
 .z 10 (.loadF 0 false 1 false) [.t 9] 8,.z 11 (.len .sl) [.T 10] 8,.z 12 (.bin .gtr) [.t 11,.i 8] 8,
 .o 13 .pick [.t 8,.b true,.t 12],.m 14 (.t 13),.z 15 (.fieldAddr 2) [.t 1] 14,.z 16 (.loadF 0 false 1 false) [.t 15] 14,
 .z 17 (.len .sl) [.T 16] 14,.z 18 (.bin .eql) [.t 17,.i 0] 14,.o 19 .pick [.t 14,.b true,.t 18],.m 20 (.t 19),
 .z 21 (.fieldAddr 2) [.t 1] 20,.z 22 (.loadF 0 false 1 false) [.t 21] 20,.z 23 (.len .sl) [.T 22] 20,.z 24 (.bin .gtr) [.t 23,.i 16] 20,
 .o 25 .pick [.t 20,.b true,.t 24],.m 26 (.t 25),.z 27 (.fieldAddr 3) [.t 1] 26,.z 28 (.loadF 0 false 1 false) [.t 27] 26,
 .z 29 (.len .sl) [.T 28] 26,.z 30 (.bin .gtr) [.t 29,.i 60] 26,.o 31 .pick [.t 26,.b true,.t 30],.m 32 (.t 31),
 .z 33 (.fieldAddr 4) [.t 1] 32,.z 34 (.loadF 0 false 1 false) [.t 33] 32,.z 35 (.bin .lss) [.t 34,.i 0] 32,
 .o 36 .pick [.t 32,.b true,.t 35],.m 37 (.t 36),.z 38 (.fieldAddr 4) [.t 1] 37,.z 39 (.loadF 0 false 1 false) [.t 38] 37,
 .z 40 (.fieldAddr 2) [.t 1] 37,.z 41 (.loadF 0 false 1 false) [.t 40] 37,.z 42 (.len .sl) [.T 41] 37,.z 43 (.bin .geq) [.t 39,.t 42] 37,
 .o 44 .pick [.t 37,.b true,.t 43]] [4,6,7,8,9,10,11,12,13,14,15,16,17,18,19,20,21,22,23,24,25,26,27,28,29,30,31,32,33,34,35,36,37,38,39,40,41,42,43])
 (.cond (.T 44) [1] (.seq (.g [.m 2 (.b false)] []) .ret) [] .skip)) (.seq (.g [.f 45 2 (.t 1),
 .l 46 0 (.t 45),.f 47 4 (.t 1),.l 48 0 (.t 47),.o 49 (.indexAddr 7) [.T 46,.t 48],
 .o 50 (.load true 7 false) [.T 49],.o 3 (.allocF 1 [.i 0,.nilSl,.bool false,.i 0,.i 0,.i 0,.nilSl]) [],
 .n (.storeF 1 7) [.t 3,.T 50]] [45,47,48]) (.seq (.g [.f 51 0 (.t 3),.l 52 1 (.t 51),
 .o 53 (.bin .eql) [.t 52,.i 0],.m 54 (.t 53),.y 55 (.fieldAddr 2) [.t 3] 54,.y 56 (.loadF 1 false 1 false) [.t 55] 54,
 .y 57 (.un .not) [.t 56] 54,.o 58 .pick [.t 54,.t 57,.b false],.m 59 (.t 58),.y 60 (.loadF 0 true 5 false) [.t 1] 59,
 .y 61 (.call 46) [.T 60] 59,.o 62 .pick [.t 59,.t 61,.b false],.m 63 (.t 62),.y 64 (.loadF 0 true 5 false) [.t 1] 63,
 .y 65 (.fieldAddr 1) [.t 1] 63,.y 66 (.loadF 0 false 1 false) [.t 65] 63,.y 67 (.call 47) [.T 64,.T 66] 63,.o 68 .pick [.t 63,.t 67,.b false],
 .m 69 (.t 68),.y 70 (.loadF 0 true 5 false) [.t 1] 69,.y 71 (.call 48) [.T 70] 69,.o 72 .pick [.t 69,.t 71,.b false],
 .m 73 (.t 72),.y 74 (.loadF 0 true 5 false) [.t 1] 73,.y 75 (.call 49) [.T 74] 73,.o 76 .pick [.t 73,.t 75,.b false],
 .m 2 (.t 76)] [1,3,51,52,53,54,55,56,57,58,59,60,61,62,63,64,65,66,67,68,69,70,71,72,73,74,75,76]) .ret)))) }
def s18:SFunc:={ fid:=18,mode:=.opn,nparams:=0,nboxes:=0,clr:=[],results:=[.tmp 0 false],body:=
 (.seq (.g [.o 0 .move [.const .nilPtr]] [0]) (.seq (.g [.o 1 (.build [.nilSl] []) [],.o 2 (.box 1) [.T 1],.m 0 (.t 2)] [2])
 .ret)) }
def s19:SFunc:={ fid:=19,mode:=.opn,nparams:=0,nboxes:=0,clr:=[],results:=[.tmp 0 false],body:=
 (.seq (.g [.o 0 .move [.const .nilMap]] [0]) (.seq (.g [.o 1 .makeMap [],
 .n (.mapUpdate .int) [.t 1,.i 1,.const (.fn 50 [] [])],.n (.mapUpdate .int) [.t 1,.i 2,.const (.fn 51 [] [])],
 .n (.mapUpdate .int) [.t 1,.i 3,.const (.fn 52 [] [])],.n (.mapUpdate .int) [.t 1,.i 4,.const (.fn 53 [] [])],
 .n (.mapUpdate .int) [.t 1,.i 5,.const (.fn 54 [] [])],.n (.mapUpdate .int) [.t 1,.i 6,.const (.fn 55 [] [])],
 .n (.mapUpdate .int) [.t 1,.i 7,.const (.fn 56 [] [])],.n (.mapUpdate .int) [.t 1,.i 8,.const (.fn 57 [] [])],
 .n (.mapUpdate .int) [.t 1,.i 9,.const (.fn 58 [] [])],.n (.mapUpdate .int) [.t 1,.i 10,.const (.fn 59 [] [])],
 .n (.mapUpdate .int) [.t 1,.i 11,.const (.fn 60 [] [])],.n (.mapUpdate .int) [.t 1,.i 12,.const (.fn 61 [] [])],
 .n (.mapUpdate .int) [.t 1,.i 13,.const (.fn 62 [] [])],.n (.mapUpdate .int) [.t 1,.i 14,.const (.fn 63 [] [])],
 .n (.mapUpdate .int) [.t 1,.i 15,.const (.fn 64 [] [])],.n (.mapUpdate .int) [.t 1,.i 16,.const (.fn 65 [] [])],
 .n (.mapUpdate .int) [.t 1,.i 17,.const (.fn 66 [] [])],.n (.mapUpdate .int) [.t 1,.i 18,.const (.fn 67 [] [])],
 .n (.mapUpdate .int) [.t 1,.i 19,.const (.fn 68 [] [])],.n (.mapUpdate .int) [.t 1,.i 20,.const (.fn 69 [] [])],
 .m 2 (.t 1),.m 0 (.t 2)] [1,2]) .ret)) }
def s20_l0:SCode:=
 (.seq (.g [.o 47 (.bin .lss) [.t 46,.t 45]] []) (.seq (.cond (.T 47) [] .skip [44,45,46] (.exit 0)) (.seq (.block 1 (.seq (.g [
 .o 48 (.indexAddr 4) [.t 44,.t 46],.o 49 (.load true 4 false) [.T 48],.o 8 (.allocF 2 [.str [],.i 0,.i 0,.i 0]) [],
 .n (.storeF 2 4) [.t 8,.t 49]] [49]) (.g [.m 50 (.T 6),.f 51 1 (.t 8),.o 52 (.loadF 2 true 3 false) [.t 51],
 .o 53 (.lit 3 1 [.i 0,.i 0,.i 0] [0]) [.t 52],.o 54 (.append 3 24) [.T 50,.T 53],.m 6 (.T 54)] [8,51,52]))) (.g [
 .o 55 (.bin .add) [.t 46,.i 1],.m 46 (.t 55)] [55]))))
def s20:SFunc:={ fid:=20,mode:=.pure,nparams:=2,nboxes:=3,clr:=[],results:=[.tmp 4 true],body:=
 (.seq (.g [.o 2 (.boxF 0 5) [.T 0],.o 4 .move [.const .nilSl]] [4]) (.seq (.seq (.g [.o 9 (.loadF 0 true 5 false) [.t 2],
 .c 10 17 [.T 9],.o 11 (.un .not) [.t 10],.m 12 (.t 11),.z 13 .move [.t 1] 12,.z 14 (.bin .lss) [.t 13,.i 0] 12,
 .o 15 .pick [.t 12,.b true,.t 14],.m 16 (.t 15),.z 17 .move [.t 1] 16,.z 18 (.fieldAddr 3) [.t 2] 16,
 .z 19 (.loadF 0 false 1 false) [.t 18] 16,.z 20 (.len .sl) [.T 19] 16,.z 21 (.bin .geq) [.t 17,.t 20] 16,
 .o 22 .pick [.t 16,.b true,.t 21]] [10,11,12,13,14,15,16,17,18,19,20,21]) (.cond (.T 22) [1,2] (.seq (.g [
 .o 4 .move [.const .nilSl]] []) .ret) [] .skip)) (.seq (.g [.f 23 3 (.t 2),.l 24 0 (.t 23),
 .m 25 (.t 1),.o 26 (.indexAddr 4) [.T 24,.t 25],.f 27 1 (.T 26),.o 28 (.load true 3 false) [.T 27],
 .o 5 (.allocF 1 [.i 0,.i 0,.i 0]) [],.n (.storeF 1 3) [.t 5,.t 28]] [1,23,25,28]) (.seq (.seq (.g [
 .f 29 2 (.t 5),.l 30 1 (.t 29),.o 31 (.bin .gtr) [.t 30,.i 0]] [29,30]) (.cond (.T 31) [2] (.seq
 (.g [.f 32 2 (.t 5),.l 33 1 (.t 32),.o 34 (.bin .sub) [.t 33,.i 1],.f 35 2 (.t 5),
 .n (.storeF 1 1) [.t 35,.t 34]] [32,33,34,35]) (.seq (.g [.o 36 (.loadF 1 true 3 false) [.t 5],
 .o 37 (.lit 3 1 [.i 0,.i 0,.i 0] [0]) [.t 36],.m 4 (.T 37)] [5,36]) .ret)) [] .skip)) (.seq (.g [
 .o 6 .move [.const .nilSl]] []) (.seq (.seq (.g [.f 38 0 (.t 2),.l 39 0 (.t 38),.f 40 1 (.t 5),
 .l 41 1 (.t 40),.o 42 (.indexAddr 2) [.T 39,.t 41],.f 43 1 (.T 42),.d 44 (.T 43),
 .o 45 (.len .sl) [.t 44],.m 46 (.i 0)] [2,5,38,40,41]) (.block 0 (.loop s20_l0))) (.seq (.g [.m 56 (.T 6),
 .m 4 (.T 56)] []) .ret))))))) }
def s21:SFunc:={ fid:=21,mode:=.opn,nparams:=3,nboxes:=0,clr:=[],results:=[.tmp 6 false],body:=
 (.seq (.g [.o 6 .move [.const .nilPtr]] [6]) (.seq (.g [.m 7 (.t 1),.m 8 (.t 0),.o 9 .nilCheck [.t 8],
 .f 10 0 (.T 9),.f 11 2 (.T 10),.d 12 (.T 11),.m 13 (.t 1),.o 14 (.indexAddr 7) [.T 12,.t 13],
 .f 15 1 (.T 14),.d 16 (.T 15),.o 17 (.len .sl) [.T 16],.o 18 (.makeSl 1 8 [.i 0] true) [.t 17,.t 17],
 .m 19 (.t 2),.o 20 (.build [.i 0,.i 0,.nilSl,.i 0] [(0,1),(2,1),(3,1)]) [.t 7,.T 18,.t 19],.o 21 (.box 4) [.T 20],
 .m 6 (.t 21)] [0,1,2,7,8,13,17,19,21]) .ret)) }
def s22:SFunc:={ fid:=22,mode:=.opn,nparams:=1,nboxes:=0,clr:=[],results:=[.tmp 2 false],body:=
 (.seq (.g [.o 2 .move [.const .nilPtr]] [2]) (.seq (.r [.m 3 (.t 0),.o 4 .nilCheck [.t 3],.f 5 9 (.T 4),
 .d 6 (.T 5),.m 7 (.t 0),.o 8 .nilCheck [.t 7],.f 9 9 (.T 8),.d 10 (.T 9),
 .o 11 (.len .sl) [.T 10],.o 12 (.bin .sub) [.t 11,.i 1],.o 13 (.indexAddr 1) [.T 6,.t 12],.d 14 (.T 13),
 .m 2 (.t 14)] (some []) [0,3,7,11,12,14]) .ret)) }
def s23:SFunc:={ fid:=23,mode:=.opn,nparams:=4,nboxes:=1,clr:=[],results:=[],body:=
 (.seq (.g [.m 9 (.t 0),.o 10 .nilCheck [.t 9],.f 11 0 (.T 10),.f 12 2 (.T 11),.d 13 (.T 12),
 .m 14 (.t 1),.o 15 (.indexAddr 7) [.T 13,.t 14],.o 16 (.load true 7 false) [.T 15],
 .o 8 (.allocF 0 [.i 0,.nilSl,.bool false,.i 0,.i 0,.i 0,.nilSl]) [],.n (.storeF 0 7) [.t 8,.T 16]] [9,14]) (.r [
 .m 17 (.t 0),.m 18 (.t 0),.o 19 .nilCheck [.t 18],.f 20 8 (.T 19),.d 21 (.T 20),.m 22 (.t 1),
 .m 23 (.t 2),.m 24 (.t 3),.o 25 (.appendM 1 8) [.const .nilSl,.T 24],.f 26 1 (.t 8),.l 27 0 (.t 26),
 .o 28 (.len .sl) [.T 27],.m 29 (.t 3),.o 30 (.len .sl) [.T 29],.o 31 (.bin .sub) [.t 28,.t 30],.o 32 (.appendZ 1 8 [.i 0]) [.T 25,.t 31],
 .o 33 (.build [.i 0,.i 0,.i 0,.nilSl] [(0,1),(2,1),(3,1)]) [.t 22,.t 23,.T 32],
 .o 34 (.litM 4 1 [.i 0,.i 0,.i 0,.nilSl] [0]) [.T 33],.o 35 (.appendM 4 48) [.T 21,.T 34],.o 36 .nilCheck [.t 17],
 .f 37 8 (.T 36),.n (.store 1) [.T 37,.T 35]] (some [(4,8),(4,15),(4,17),(11,8),(13,8)]) [0,1,2,3,8,17,18,22,23,26,28,30,31])) }
def s24:SFunc:={ fid:=24,mode:=.opn,nparams:=1,nboxes:=1,clr:=[],results:=[],body:=
 (.seq (.r [.m 6 (.t 0),.o 7 .nilCheck [.t 6],.f 8 8 (.T 7),.d 9 (.T 8),.m 10 (.t 0),
 .o 11 .nilCheck [.t 10],.f 12 8 (.T 11),.d 13 (.T 12),.o 14 (.len .sl) [.T 13],
 .o 15 (.bin .sub) [.t 14,.i 1],.o 16 (.indexAddr 4) [.T 9,.t 15],.m 2 (.T 16)] (some []) [6,10,14,15]) (.seq (.r [
 .m 17 (.t 0),.o 18 .nilCheck [.t 17],.f 19 0 (.T 18),.f 20 2 (.T 19),.d 21 (.T 20),
 .m 22 (.t 2),.o 23 .nilCheck [.t 22],.f 24 0 (.T 23),.d 25 (.T 24),.o 26 (.indexAddr 7) [.T 21,.t 25],
 .f 27 6 (.T 26),.d 28 (.T 27),.m 29 (.t 2),.o 30 .nilCheck [.t 29],.f 31 1 (.T 30),
 .d 32 (.T 31),.o 33 (.indexAddr 6) [.T 28,.t 32],.o 34 (.load true 6 false) [.T 33],
 .o 3 (.allocF 0 [.i 0,.i 0,.i 0,.i 0,.i 0,.nilSl]) [],.n (.storeF 0 6) [.t 3,.T 34]] (some []) [17,22,25,29,32]) (.seq
 (.g [.m 35 (.t 2),.o 36 .nilCheck [.t 35],.f 37 3 (.T 36),.d 38 (.T 37),.m 4 (.T 38)] [35])
 (.seq (.g [.m 39 (.t 2),.o 40 .nilCheck [.t 39],.f 41 1 (.T 40),.d 42 (.T 41),
 .o 43 (.bin .add) [.t 42,.i 1],.o 44 .nilCheck [.t 39],.f 45 1 (.T 44),.n (.store 1) [.T 45,.t 43]] [39,42,43]) (.seq
 (.g [.m 5 (.i 0)] []) (.seq (.seq (.g [.f 46 0 (.t 3),.l 47 0 (.t 46)] [46])
 (.block 0 (.seq (.g [.o 49 (.bin .eql) [.t 47,.i 1],.m 48 (.t 49)] [49]) (.cond (.T 48) [2,47] (.g [
 .m 50 (.T 4),.f 51 1 (.t 3),.l 52 0 (.t 51),.f 53 4 (.t 3),.l 54 0 (.t 53),
 .o 55 (.indexAddr 1) [.T 50,.t 52],.n (.store 1) [.T 55,.t 54]] [3,51,52,53,54]) [] (.seq (.g [.o 57 (.bin .eql) [.t 47,.i 2],
 .m 56 (.t 57)] [57]) (.cond (.T 56) [2,47] (.g [.m 58 (.T 4),.f 59 1 (.t 3),.l 60 0 (.t 59),
 .o 61 (.indexAddr 1) [.T 58,.t 60],.n (.store 1) [.T 61,.i 0]] [3,59,60]) [] (.seq (.g [
 .o 63 (.bin .eql) [.t 47,.i 3],.m 62 (.t 63)] [63]) (.cond (.T 62) [2,47] (.r [.m 64 (.t 4),
 .f 65 1 (.t 3),.l 66 0 (.t 65),.m 67 (.t 4),.f 68 2 (.t 3),.l 69 0 (.t 68),
 .o 70 (.indexAddr 1) [.T 67,.t 69],.d 71 (.T 70),.o 72 (.indexAddr 1) [.T 64,.t 66],
 .n (.store 1) [.T 72,.t 71]] (some []) [3,4,65,66,68,69,71]) [] (.seq (.g [.o 74 (.bin .eql) [.t 47,.i 4],
 .m 73 (.t 74)] [74]) (.cond (.T 73) [2,5,47] (.r [.m 76 (.t 4),.f 77 1 (.t 3),.l 78 0 (.t 77),
 .f 79 4 (.t 3),.l 80 0 (.t 79),.m 81 (.t 4),.f 82 2 (.t 3),.l 83 0 (.t 82),
 .o 84 (.indexAddr 1) [.T 81,.t 83],.d 85 (.T 84),.m 86 (.t 4),.f 87 3 (.t 3),
 .l 88 0 (.t 87),.o 89 (.indexAddr 1) [.T 86,.t 88],.d 90 (.T 89),.c 91 70 [.t 80,.t 85,.t 90],
 .m 75 (.T 91),.o 92 (.extract 0) [.t 75],.o 93 (.extract 1) [.t 75],.o 94 (.indexAddr 1) [.T 76,.t 78],.n (.store 1) [.T 94,.t 92],
 .m 5 (.t 93)] (some []) [3,4,75,77,78,79,80,82,83,85,87,88,90,92,93]) [] (.seq (.g [.o 96 (.bin .eql) [.t 47,.i 5],
 .m 95 (.t 96)] [96]) (.cond (.T 95) [2,47] (.r [.m 97 (.t 4),.f 98 1 (.t 3),.l 99 0 (.t 98),
 .f 100 4 (.t 3),.l 101 0 (.t 100),.m 102 (.t 4),.f 103 2 (.t 3),
 .l 104 0 (.t 103),.o 105 (.indexAddr 1) [.T 102,.t 104],.d 106 (.T 105),.c 107 71 [.t 101,.t 106],
 .o 108 (.indexAddr 1) [.T 97,.t 99],.n (.store 1) [.T 108,.t 107]] (some []) [3,4,98,99,100,101,103,104,106,107]) [] (.seq (.g [
 .o 110 (.bin .eql) [.t 47,.i 6],.m 109 (.t 110)] [110]) (.cond (.T 109) [2,5,47] (.r [.m 112 (.t 4),
 .f 113 1 (.t 3),.l 114 0 (.t 113),.m 115 (.t 0),.o 116 .nilCheck [.t 115],.f 117 6 (.T 116),
 .m 118 (.t 4),.f 119 2 (.t 3),.l 120 0 (.t 119),.o 121 (.indexAddr 1) [.T 118,.t 120],
 .d 122 (.T 121),.f 123 3 (.t 3),.l 124 0 (.t 123),.c 125 72 [.T 117,.t 122,.t 124],
 .m 111 (.T 125),.o 126 (.extract 0) [.t 111],.o 127 (.extract 1) [.t 111],.o 128 (.indexAddr 1) [.T 112,.t 114],.n (.store 1) [.T 128,.t 126],
 .m 5 (.t 127)] (some []) [3,4,111,113,114,115,119,120,122,123,124,126,127]) [] (.seq (.g [.o 130 (.bin .eql) [.t 47,.i 7],
 .m 129 (.t 130)] [130]) (.cond (.T 129) [2,5,47] (.r [.m 131 (.t 0),.o 132 .nilCheck [.t 131],.f 133 6 (.T 132),
 .m 134 (.t 4),.f 135 1 (.t 3),.l 136 0 (.t 135),.o 137 (.indexAddr 1) [.T 134,.t 136],
 .d 138 (.T 137),.f 139 3 (.t 3),.l 140 0 (.t 139),.m 141 (.t 4),
 .f 142 2 (.t 3),.l 143 0 (.t 142),.o 144 (.indexAddr 1) [.T 141,.t 143],.d 145 (.T 144),
 .c 146 73 [.T 133,.t 138,.t 140,.t 145],.m 5 (.t 146)] (some []) [3,4,131,135,136,138,139,140,142,143,145,146]) [] (.seq (.g [
 .o 148 (.bin .eql) [.t 47,.i 8],.m 147 (.t 148)] [148]) (.cond (.T 147) [2,5,47] (.r [.m 150 (.t 4),
 .f 151 1 (.t 3),.l 152 0 (.t 151),.m 153 (.t 0),.o 154 .nilCheck [.t 153],.f 155 6 (.T 154),
 .m 156 (.t 4),.f 157 2 (.t 3),.l 158 0 (.t 157),.o 159 (.indexAddr 1) [.T 156,.t 158],
 .d 160 (.T 159),.m 161 (.t 4),.f 162 3 (.t 3),.l 163 0 (.t 162),
 .o 164 (.indexAddr 1) [.T 161,.t 163],.d 165 (.T 164),.c 166 72 [.T 155,.t 160,.t 165],.m 149 (.T 166),
 .o 167 (.extract 0) [.t 149],.o 168 (.extract 1) [.t 149],.o 169 (.indexAddr 1) [.T 150,.t 152],.n (.store 1) [.T 169,.t 167],
 .m 5 (.t 168)] (some []) [3,4,149,151,152,153,157,158,160,162,163,165,167,168]) [] (.seq (.g [.o 171 (.bin .eql) [.t 47,.i 9],
 .m 170 (.t 171)] [171]) (.cond (.T 170) [2,5,47] (.r [.m 172 (.t 0),.o 173 .nilCheck [.t 172],.f 174 6 (.T 173),
 .m 175 (.t 4),.f 176 1 (.t 3),.l 177 0 (.t 176),.o 178 (.indexAddr 1) [.T 175,.t 177],
 .d 179 (.T 178),.m 180 (.t 4),.f 181 2 (.t 3),.l 182 0 (.t 181),
 .o 183 (.indexAddr 1) [.T 180,.t 182],.d 184 (.T 183),.m 185 (.t 4),.f 186 3 (.t 3),
 .l 187 0 (.t 186),.o 188 (.indexAddr 1) [.T 185,.t 187],.d 189 (.T 188),
 .c 190 73 [.T 174,.t 179,.t 184,.t 189],.m 5 (.t 190)] (some []) [3,4,172,176,177,179,181,182,184,186,187,189,190]) [] (.seq (.g [
 .o 192 (.bin .eql) [.t 47,.i 10],.m 191 (.t 192)] [192]) (.cond (.T 191) [2,5,47] (.r [.m 194 (.t 4),
 .f 195 1 (.t 3),.l 196 0 (.t 195),.m 197 (.t 0),.o 198 .nilCheck [.t 197],.f 199 6 (.T 198),
 .m 200 (.t 4),.f 201 2 (.t 3),.l 202 0 (.t 201),.o 203 (.indexAddr 1) [.T 200,.t 202],
 .d 204 (.T 203),.c 205 74 [.T 199,.t 204],.m 193 (.T 205),.o 206 (.extract 0) [.t 193],.o 207 (.extract 1) [.t 193],
 .o 208 (.indexAddr 1) [.T 194,.t 196],.n (.store 1) [.T 208,.t 206],.m 5 (.t 207)] (some []) [3,4,193,195,196,197,201,202,204,206,207]) [] (.seq
 (.g [.o 210 (.bin .eql) [.t 47,.i 11],.m 209 (.t 210)] [210]) (.cond (.T 209) [2,47] (.r [.m 211 (.T 4),
 .f 212 1 (.t 3),.l 213 0 (.t 212),.m 214 (.t 0),.o 215 .nilCheck [.t 214],.f 216 6 (.T 215),
 .m 217 (.t 0),.o 218 .nilCheck [.t 217],.f 219 0 (.T 218),.o 220 (.load true 5 false) [.T 219],.f 221 4 (.t 3),
 .l 222 0 (.t 221),.c 223 76 [.T 220,.t 222],.o 224 (.len .sl) [.T 223],.c 225 75 [.T 216,.t 224],
 .o 226 (.indexAddr 1) [.T 211,.t 213],.n (.store 1) [.T 226,.t 225]] (some []) [3,212,213,214,217,221,222,224,225]) [] (.seq (.g [
 .o 228 (.bin .eql) [.t 47,.i 12],.m 227 (.t 228)] [228]) (.cond (.T 227) [2,5,47] (.r [.m 230 (.t 4),
 .f 231 1 (.t 3),.l 232 0 (.t 231),.m 233 (.t 0),.o 234 .nilCheck [.t 233],.f 235 6 (.T 234),
 .m 236 (.t 4),.f 237 2 (.t 3),.l 238 0 (.t 237),.o 239 (.indexAddr 1) [.T 236,.t 238],
 .d 240 (.T 239),.c 241 77 [.T 235,.t 240],.m 229 (.T 241),.o 242 (.extract 0) [.t 229],.o 243 (.extract 1) [.t 229],
 .o 244 (.indexAddr 1) [.T 230,.t 232],.n (.store 1) [.T 244,.t 242],.m 5 (.t 243)] (some []) [3,4,229,231,232,233,237,238,240,242,243]) [] (.seq
 (.g [.o 246 (.bin .eql) [.t 47,.i 13],.m 245 (.t 246)] [246]) (.cond (.T 245) [2,47] (.g [.m 247 (.t 0),
 .o 248 (.loadF 0 true 6 false) [.t 3],.m 249 (.T 4),.c 250 78 [.t 247,.T 248,.T 249]] [3,247,250]) [] (.seq (.g [
 .o 252 (.bin .eql) [.t 47,.i 14],.m 251 (.t 252)] [252]) (.cond (.T 251) [2,47] (.seq (.g [.m 253 (.t 0),
 .o 254 .nilCheck [.t 253],.f 255 5 (.T 254),.d 256 (.T 255),.o 257 (.len .sl) [.T 256],
 .o 258 (.bin .eql) [.t 257,.i 0]] [253,257]) (.cond (.T 258) [3,4,5] (.g [.m 5 (.i 5)] []) [] (.seq
 (.r [.m 259 (.T 4),.f 260 1 (.t 3),.l 261 0 (.t 260),.m 262 (.t 0),.o 263 .nilCheck [.t 262],
 .f 264 5 (.T 263),.d 265 (.T 264),.o 266 (.indexAddr 1) [.T 265,.i 0],
 .d 267 (.T 266),.o 268 (.indexAddr 1) [.T 259,.t 261],.n (.store 1) [.T 268,.t 267]] (some []) [3,260,261,262,267]) (.g [
 .m 269 (.t 0),.m 270 (.t 0),.o 271 .nilCheck [.t 270],.f 272 5 (.T 271),.d 273 (.T 272),
 .o 274 (.slice false true false false 1) [.T 273,.i 1],.o 275 .nilCheck [.t 269],.f 276 5 (.T 275),
 .n (.store 1) [.T 276,.T 274]] [269,270])))) [] (.seq (.g [.o 278 (.bin .eql) [.t 47,.i 15],.m 277 (.t 278)] [278])
 (.cond (.T 277) [2,47] (.r [.m 279 (.t 0),.m 280 (.t 0),.o 281 .nilCheck [.t 280],.f 282 9 (.T 281),
 .f 283 2 (.T 282),.d 284 (.T 283),.m 285 (.T 4),.f 286 1 (.t 3),
 .l 287 0 (.t 286),.o 288 (.indexAddr 1) [.T 285,.t 287],.d 289 (.T 288),
 .o 290 (.lit 1 1 [.i 0] [0]) [.t 289],.o 291 (.appendM 1 8) [.T 284,.T 290],.o 292 .nilCheck [.t 279],.f 293 9 (.T 292),
 .f 294 2 (.T 293),.n (.store 1) [.T 294,.T 291]] (some []) [3,279,280,286,287,289]) [] (.seq (.g [
 .o 296 (.bin .eql) [.t 47,.i 16],.m 295 (.t 296)] [296]) (.cond (.T 295) [4,47] (.g [.m 297 (.t 2),
 .f 298 4 (.t 3),.l 299 0 (.t 298),.o 300 .nilCheck [.t 297],.f 301 1 (.T 300),
 .n (.store 1) [.T 301,.t 299]] [2,3,297,298,299]) [] (.seq (.g [.o 303 (.bin .eql) [.t 47,.i 17],
 .m 302 (.t 303)] [303]) (.cond (.T 302) [47] (.seq (.g [.m 304 (.t 2),.f 305 3 (.t 3),
 .l 306 0 (.t 305),.o 307 .nilCheck [.t 304],.f 308 1 (.T 307),.n (.store 1) [.T 308,.t 306]] [304,305,306]) (.seq
 (.g [.m 309 (.T 4),.f 310 1 (.t 3),.l 311 0 (.t 310),.o 312 (.indexAddr 1) [.T 309,.t 311],
 .d 313 (.T 312),.o 314 (.bin .neq) [.t 313,.i 0]] [310,311,313]) (.cond (.T 314) [] (.g [
 .m 315 (.t 2),.f 316 4 (.t 3),.l 317 0 (.t 316),.o 318 .nilCheck [.t 315],.f 319 1 (.T 318),
 .n (.store 1) [.T 319,.t 317]] [2,3,315,316,317]) [2,3] .skip))) [2] (.seq (.g [.o 321 (.bin .eql) [.t 47,.i 18],
 .m 320 (.t 321)] [321]) (.cond (.T 320) [47] (.seq (.g [.f 322 1 (.t 3),.l 323 0 (.t 322),
 .o 324 (.bin .lss) [.t 323,.i 0]] [322,323]) (.cond (.T 324) [3,4] (.g [.m 325 (.t 0),
 .c 326 79 [.t 325,.i 0]] [325,326]) [] (.g [.m 327 (.t 0),.m 328 (.T 4),.f 329 1 (.t 3),
 .l 330 0 (.t 329),.o 331 (.indexAddr 1) [.T 328,.t 330],.d 332 (.T 331),
 .c 333 79 [.t 327,.t 332]] [3,327,329,330,332,333]))) [] (.seq (.g [.o 335 (.bin .eql) [.t 47,.i 19],
 .m 334 (.t 335)] [335]) (.cond (.T 334) [47] (.r [.m 336 (.T 4),.f 337 1 (.t 3),
 .l 338 0 (.t 337),.m 339 (.t 0),.o 340 .nilCheck [.t 339],.f 341 7 (.T 340),
 .d 342 (.T 341),.f 343 4 (.t 3),.l 344 0 (.t 343),.o 345 (.indexAddr 1) [.T 342,.t 344],
 .d 346 (.T 345),.o 347 (.indexAddr 1) [.T 336,.t 338],.n (.store 1) [.T 347,.t 346]] (some []) [3,337,338,339,343,344,346]) [] (.seq
 (.g [.o 349 (.bin .eql) [.t 47,.i 20],.m 348 (.t 349)] [47,349]) (.cond (.T 348) [] (.r [.m 350 (.t 0),
 .o 351 .nilCheck [.t 350],.f 352 7 (.T 351),.d 353 (.T 352),.f 354 4 (.t 3),
 .l 355 0 (.t 354),.m 356 (.T 4),.f 357 1 (.t 3),.l 358 0 (.t 357),
 .o 359 (.indexAddr 1) [.T 356,.t 358],.d 360 (.T 359),.o 361 (.indexAddr 1) [.T 353,.t 355],
 .n (.store 1) [.T 361,.t 360]] (some []) [3,350,354,355,357,358,360]) [3,4] .skip)))))))))))))))))))))))))))))))))))))))))) (.g [.m 362 (.t 0),
 .m 363 (.t 5),.c 364 80 [.t 362,.t 363]] [0,5,362,363,364]))))))) }
def s42_l0:SCode:=
 (.seq (.seq (.g [.m 6 (.t 5),.m 7 (.t 1),.o 8 (.len .sl) [.T 7],.o 9 (.bin .lss) [.t 6,.t 8]] [6,8]) (.cond (.T 9) [] .skip [1,2,5]
 (.exit 0))) (.seq (.block 1 (.seq (.r [.o 12 (.loadF 0 true 5 false) [.t 2],.m 13 (.t 1),.m 14 (.t 5),.o 15 (.indexAddr 3) [.T 13,.t 14],
 .o 16 (.load true 3 false) [.T 15],.c 17 43 [.T 12,.t 16],.o 18 (.un .not) [.t 17]] (some []) [14,16,17]) (.cond (.T 18) [1,2,5] (.seq (.g [
 .m 4 (.b false)] []) .ret) [] .skip))) (.g [.m 10 (.t 5),.o 11 (.bin .add) [.t 10,.i 1],
 .m 5 (.t 11)] [10,11])))
def s42:SFunc:={ fid:=42,mode:=.pure,nparams:=2,nboxes:=1,clr:=[],results:=[.tmp 4 false],body:=
 (.seq (.g [.o 2 (.boxF 0 5) [.T 0],.m 4 (.b false)] [4]) (.seq (.seq (.g [.m 5 (.i 0)] [])
 (.block 0 (.loop s42_l0))) (.seq (.g [.m 4 (.b true)] []) .ret))) }
def s43:SFunc:={ fid:=43,mode:=.pure,nparams:=2,nboxes:=2,clr:=[],results:=[.tmp 4 false],body:=
 (.seq (.g [.o 2 (.boxF 0 5) [.T 0],.o 3 (.boxF 1 3) [.t 1],.m 4 (.b false)] [1,4]) (.seq (.seq (.g [
 .f 5 2 (.t 3),.l 6 1 (.t 5),.o 7 (.bin .lss) [.t 6,.i 0],.m 8 (.t 7),
 .z 9 (.fieldAddr 2) [.t 3] 8,.z 10 (.loadF 1 false 1 false) [.t 9] 8,.z 11 (.bin .gtr) [.t 10,.i 3] 8,
 .o 12 .pick [.t 8,.b true,.t 11]] [5,6,7,8,9,10,11]) (.cond (.T 12) [2,3] (.seq (.g [.m 4 (.b false)] [])
 .ret) [] .skip)) (.seq (.seq (.g [.f 13 0 (.t 3),.l 14 1 (.t 13)] [13]) (.block 0 (.seq (.seq (.g [
 .o 16 (.bin .eql) [.t 14,.i 1],.m 15 (.t 16)] [16]) (.cond (.t 15) [] .skip [15] (.g [
 .o 17 (.bin .eql) [.t 14,.i 2],.m 15 (.t 17)] [17]))) (.cond (.T 15) [2,14] (.seq (.g [.f 18 1 (.t 3),
 .l 19 1 (.t 18),.o 20 (.bin .eql) [.t 19,.i 0],.m 4 (.t 20)] [3,18,19,20]) .ret) [] (.seq (.g [
 .o 22 (.bin .eql) [.t 14,.i 3],.m 21 (.t 22)] [14,22]) (.cond (.T 21) [] (.seq (.g [.f 23 1 (.t 3),
 .l 24 1 (.t 23),.o 25 (.bin .geq) [.t 24,.i 0],.m 26 (.t 25),.y 27 (.fieldAddr 1) [.t 3] 26,
 .y 28 (.loadF 1 false 1 false) [.t 27] 26,.y 29 (.fieldAddr 0) [.t 2] 26,.y 30 (.loadF 0 false 1 false) [.t 29] 26,.y 31 (.len .sl) [.T 30] 26,
 .y 32 (.bin .lss) [.t 28,.t 31] 26,.o 33 .pick [.t 26,.t 32,.b false],.m 4 (.t 33)] [2,3,23,24,25,26,27,28,29,30,31,32,33])
 .ret) [2,3] .skip)))))) (.seq (.g [.m 4 (.b false)] []) .ret)))) }
def s44:SFunc:={ fid:=44,mode:=.pure,nparams:=1,nboxes:=1,clr:=[],results:=[.tmp 2 false],body:=
 (.seq (.g [.o 1 (.boxF 0 3) [.t 0],.m 2 (.b false)] [0,2]) (.seq (.g [.f 3 0 (.t 1),
 .l 4 0 (.t 3),.o 5 (.bin .eql) [.t 4,.i 3],.m 6 (.t 5),.z 7 (.fieldAddr 2) [.t 1] 6,
 .z 8 (.loadF 0 false 1 false) [.t 7] 6,.z 9 (.bin .gtr) [.t 8,.i 0] 6,.o 10 .pick [.t 6,.b true,.t 9],
 .m 2 (.t 10)] [1,3,4,5,6,7,8,9,10]) .ret)) }
def s45:SFunc:={ fid:=45,mode:=.pure,nparams:=3,nboxes:=7,clr:=[],results:=[.tmp 6 false],body:=
 (.seq (.g [.o 3 (.boxF 0 5) [.T 0],.o 5 (.boxF 1 6) [.T 2],.m 6 (.b false)] [6]) (.seq (.seq (.g [.m 12 (.t 1),
 .o 13 (.bin .lss) [.t 12,.i 0],.m 14 (.t 13),.z 15 .move [.t 1] 14,.z 16 (.fieldAddr 2) [.t 3] 14,
 .z 17 (.loadF 0 false 1 false) [.t 16] 14,.z 18 (.len .sl) [.T 17] 14,.z 19 (.bin .geq) [.t 15,.t 18] 14,.o 20 .pick [.t 14,.b true,.t 19],
 .m 21 (.t 20),.z 22 (.loadF 1 true 6 false) [.t 5] 21,.z 23 (.call 95) [.T 22] 21,.z 24 (.un .not) [.t 23] 21,
 .o 25 .pick [.t 21,.b true,.t 24]] [12,13,14,15,16,17,18,19,20,21,22,23,24]) (.cond (.T 25) [1,3,5] (.seq (.g [
 .m 6 (.b false)] []) .ret) [] .skip)) (.seq (.g [.f 26 2 (.t 3),.l 27 0 (.t 26),
 .m 28 (.t 1),.o 29 (.indexAddr 7) [.T 27,.t 28],.o 30 (.load true 7 false) [.T 29],
 .o 7 (.allocF 2 [.i 0,.nilSl,.bool false,.i 0,.i 0,.i 0,.nilSl]) [],.n (.storeF 2 7) [.t 7,.T 30]] [26,28]) (.seq (.g [
 .o 31 (.build [.i 0,.i 0,.i 0] []) [],.o 8 (.allocF 3 [.i 0,.i 0,.i 0]) [],
 .n (.storeF 3 3) [.t 8,.t 31]] [31]) (.seq (.r [.o 32 (.loadF 2 true 7 false) [.t 7],.f 33 1 (.t 5),
 .l 34 1 (.t 33),.c 35 96 [.T 32,.t 34],.o 36 (.loadF 2 true 7 false) [.t 7],.f 37 2 (.t 5),
 .l 38 1 (.t 37),.c 39 96 [.T 36,.t 38],.o 40 (.loadF 2 true 7 false) [.t 7],.f 41 3 (.t 5),
 .l 42 1 (.t 41),.c 43 96 [.T 40,.t 42],.o 9 (.allocF 4 [.i 0,.i 0,.i 0]) [],
 .o 10 (.allocF 5 [.i 0,.i 0,.i 0]) [],.o 11 (.allocF 6 [.i 0,.i 0,.i 0]) [],.n (.storeF 4 3) [.t 9,.t 35],
 .n (.storeF 5 3) [.t 10,.t 39],.n (.storeF 6 3) [.t 11,.t 43]] (some []) [33,34,35,37,38,39,41,42,43]) (.seq (.seq (.g [.f 44 0 (.t 5),
 .l 45 1 (.t 44)] [44]) (.block 0 (.seq (.g [.o 47 (.bin .eql) [.t 45,.i 1],.m 46 (.t 47)] [47])
 (.cond (.T 46) [1,3,7,8,10,11,45] (.seq (.r [.o 48 (.loadF 4 true 3 false) [.t 9],.c 49 97 [],
 .o 50 (.eqv (.flat [.int,.int,.int]) false) [.t 48,.t 49],.m 51 (.t 50),.z 52 (.loadF 4 true 3 false) [.t 9] 51,.z 53 (.call 98) [] 51,
 .z 54 (.eqv (.flat [.int,.int,.int]) false) [.t 52,.t 53] 51,.z 55 .move [.t 54] 51,.y 56 (.fieldAddr 4) [.t 5] 55,
 .y 57 (.loadF 1 false 1 false) [.t 56] 55,.y 58 (.bin .eql) [.t 57,.i 0] 55,.y 59 .move [.t 58] 55,.z 60 (.fieldAddr 4) [.t 5] 59,
 .z 61 (.loadF 1 false 1 false) [.t 60] 59,.z 62 (.bin .eql) [.t 61,.i 1] 59,.y 63 .pick [.t 59,.b true,.t 62] 55,
 .z 64 .pick [.t 55,.t 63,.b false] 51,.o 65 .pick [.t 51,.b true,.t 64],
 .m 6 (.t 65)] (some []) [5,9,48,49,50,51,52,53,54,55,56,57,58,59,60,61,62,63,64,65]) .ret) [] (.seq (.g [
 .o 67 (.bin .eql) [.t 45,.i 2],.m 66 (.t 67)] [67]) (.cond (.T 66) [1,3,5,7,10,11,45] (.seq (.g [
 .o 68 (.loadF 4 true 3 false) [.t 9],.o 69 (.loadF 3 true 3 false) [.t 8],.o 70 (.eqv (.flat [.int,.int,.int]) true) [.t 68,.t 69],.m 71 (.t 70),
 .y 72 (.loadF 4 true 3 false) [.t 9] 71,.y 73 (.call 44) [.t 72] 71,.o 74 .pick [.t 71,.t 73,.b false],
 .m 6 (.t 74)] [8,9,68,69,70,71,72,73,74]) .ret) [] (.seq (.g [.o 76 (.bin .eql) [.t 45,.i 3],.m 75 (.t 76)] [76])
 (.cond (.T 75) [1,3,5,7,11,45] (.seq (.g [.o 77 (.loadF 4 true 3 false) [.t 9],.o 78 (.loadF 3 true 3 false) [.t 8],
 .o 79 (.eqv (.flat [.int,.int,.int]) true) [.t 77,.t 78],.m 80 (.t 79),.y 81 (.loadF 4 true 3 false) [.t 9] 80,
 .y 82 (.loadF 5 true 3 false) [.t 10] 80,.y 83 (.eqv (.flat [.int,.int,.int]) false) [.t 81,.t 82] 80,.o 84 .pick [.t 80,.t 83,.b false],
 .m 6 (.t 84)] [8,9,10,77,78,79,80,81,82,83,84]) .ret) [] (.seq (.g [.o 86 (.bin .eql) [.t 45,.i 4],
 .m 85 (.t 86)] [86]) (.cond (.T 85) [1,3,7,8,45] (.seq (.g [.f 87 4 (.t 5),.l 88 1 (.t 87),
 .o 89 (.loadF 4 true 3 false) [.t 9],.o 90 (.loadF 5 true 3 false) [.t 10],.o 91 (.loadF 6 true 3 false) [.t 11],
 .c 92 99 [.t 88,.t 89,.t 90,.t 91],.m 6 (.t 92)] [5,9,10,11,87,88,89,90,91,92]) .ret) [] (.seq (.g [
 .o 94 (.bin .eql) [.t 45,.i 5],.m 93 (.t 94)] [94]) (.cond (.T 93) [1,3,7,8,11,45] (.seq (.r [.f 95 4 (.t 5),
 .l 96 1 (.t 95),.o 97 (.bin .eql) [.t 96,.i 12],.m 98 (.t 97),.y 99 (.loadF 4 true 3 false) [.t 9] 98,
 .y 100 (.call 97) [] 98,.y 101 (.eqv (.flat [.int,.int,.int]) false) [.t 99,.t 100] 98,.o 102 .pick [.t 98,.t 101,.b false],
 .m 103 (.t 102),.y 104 (.loadF 5 true 3 false) [.t 10] 103,.y 105 (.call 97) [] 103,.y 106 (.eqv (.flat [.int,.int,.int]) false) [.t 104,.t 105] 103,
 .o 107 .pick [.t 103,.t 106,.b false],.m 108 (.t 107),.z 109 (.fieldAddr 4) [.t 5] 108,.z 110 (.loadF 1 false 1 false) [.t 109] 108,
 .z 111 (.bin .eql) [.t 110,.i 13] 108,.z 112 .move [.t 111] 108,.y 113 (.loadF 4 true 3 false) [.t 9] 112,.y 114 (.call 98) [] 112,
 .y 115 (.eqv (.flat [.int,.int,.int]) false) [.t 113,.t 114] 112,.z 116 .pick [.t 112,.t 115,.b false] 108,.z 117 .move [.t 116] 108,
 .y 118 (.loadF 5 true 3 false) [.t 10] 117,.y 119 (.call 98) [] 117,.y 120 (.eqv (.flat [.int,.int,.int]) false) [.t 118,.t 119] 117,
 .z 121 .pick [.t 117,.t 120,.b false] 108,.o 122 .pick [.t 108,.b true,.t 121],
 .m 6 (.t 122)] (some []) [5,9,10,95,96,97,98,99,100,101,102,103,104,105,106,107,108,109,110,111,112,113,114,115,116,117,118,119,120,121,122]) .ret) []
 (.seq (.g [.o 124 (.bin .eql) [.t 45,.i 6],.m 123 (.t 124)] [124]) (.cond (.T 123) [1,7,11,45] (.seq (.r [
 .o 125 (.loadF 4 true 3 false) [.t 9],.o 126 (.loadF 3 true 3 false) [.t 8],.o 127 (.eqv (.flat [.int,.int,.int]) true) [.t 125,.t 126],
 .m 128 (.t 127),.y 129 (.loadF 4 true 3 false) [.t 9] 128,.y 130 (.loadF 0 true 5 false) [.t 3] 128,.y 131 (.loadF 5 true 3 false) [.t 10] 128,
 .y 132 (.fieldAddr 3) [.t 5] 128,.y 133 (.loadF 1 false 1 false) [.t 132] 128,.y 134 (.call 100) [.T 130,.t 131,.t 133] 128,
 .y 135 (.eqv (.flat [.int,.int,.int]) false) [.t 129,.t 134] 128,.o 136 .pick [.t 128,.t 135,.b false],
 .m 6 (.t 136)] (some []) [3,5,8,9,10,125,126,127,128,129,130,131,132,133,134,135,136]) .ret) [] (.seq (.g [
 .o 138 (.bin .eql) [.t 45,.i 7],.m 137 (.t 138)] [138]) (.cond (.T 137) [1,7,11,45] (.seq (.r [
 .o 139 (.loadF 5 true 3 false) [.t 10],.o 140 (.loadF 3 true 3 false) [.t 8],.o 141 (.eqv (.flat [.int,.int,.int]) true) [.t 139,.t 140],
 .m 142 (.t 141),.y 143 (.loadF 5 true 3 false) [.t 10] 142,.y 144 (.loadF 0 true 5 false) [.t 3] 142,.y 145 (.loadF 4 true 3 false) [.t 9] 142,
 .y 146 (.fieldAddr 3) [.t 5] 142,.y 147 (.loadF 1 false 1 false) [.t 146] 142,.y 148 (.call 100) [.T 144,.t 145,.t 147] 142,
 .y 149 (.eqv (.flat [.int,.int,.int]) false) [.t 143,.t 148] 142,.o 150 .pick [.t 142,.t 149,.b false],
 .m 6 (.t 150)] (some []) [3,5,8,9,10,139,140,141,142,143,144,145,146,147,148,149,150]) .ret) [] (.seq (.g [
 .o 152 (.bin .eql) [.t 45,.i 8],.m 151 (.t 152)] [152]) (.cond (.T 151) [1,3,5,7,45] (.seq (.r [
 .o 153 (.loadF 4 true 3 false) [.t 9],.o 154 (.loadF 3 true 3 false) [.t 8],.o 155 (.eqv (.flat [.int,.int,.int]) true) [.t 153,.t 154],
 .m 156 (.t 155),.y 157 (.fieldAddr 2) [.t 10] 156,.y 158 (.loadF 5 false 1 false) [.t 157] 156,.y 159 (.bin .gtr) [.t 158,.i 0] 156,
 .o 160 .pick [.t 156,.t 159,.b false],.m 161 (.t 160),.y 162 (.loadF 6 true 3 false) [.t 11] 161,.y 163 (.call 97) [] 161,
 .y 164 (.eqv (.flat [.int,.int,.int]) false) [.t 162,.t 163] 161,.o 165 .pick [.t 161,.t 164,.b false],.m 166 (.t 165),
 .y 167 (.loadF 4 true 3 false) [.t 9] 166,.y 168 (.loadF 5 true 3 false) [.t 10] 166,.y 169 (.call 101) [.t 168] 166,
 .y 170 (.eqv (.flat [.int,.int,.int]) false) [.t 167,.t 169] 166,.o 171 .pick [.t 166,.t 170,.b false],
 .m 6 (.t 171)] (some []) [8,9,10,11,153,154,155,156,157,158,159,160,161,162,163,164,165,166,167,168,169,170,171]) .ret) [] (.seq (.g [
 .o 173 (.bin .eql) [.t 45,.i 9],.m 172 (.t 173)] [173]) (.cond (.T 172) [1,3,5,7,45] (.seq (.r [
 .o 174 (.loadF 6 true 3 false) [.t 11],.o 175 (.loadF 3 true 3 false) [.t 8],.o 176 (.eqv (.flat [.int,.int,.int]) true) [.t 174,.t 175],
 .m 177 (.t 176),.y 178 (.fieldAddr 2) [.t 9] 177,.y 179 (.loadF 4 false 1 false) [.t 178] 177,.y 180 (.bin .gtr) [.t 179,.i 0] 177,
 .o 181 .pick [.t 177,.t 180,.b false],.m 182 (.t 181),.y 183 (.loadF 5 true 3 false) [.t 10] 182,.y 184 (.call 97) [] 182,
 .y 185 (.eqv (.flat [.int,.int,.int]) false) [.t 183,.t 184] 182,.o 186 .pick [.t 182,.t 185,.b false],.m 187 (.t 186),
 .y 188 (.loadF 6 true 3 false) [.t 11] 187,.y 189 (.loadF 4 true 3 false) [.t 9] 187,.y 190 (.call 101) [.t 189] 187,
 .y 191 (.eqv (.flat [.int,.int,.int]) false) [.t 188,.t 190] 187,.o 192 .pick [.t 187,.t 191,.b false],
 .m 6 (.t 192)] (some []) [8,9,10,11,174,175,176,177,178,179,180,181,182,183,184,185,186,187,188,189,190,191,192]) .ret) [11] (.seq (.g [
 .o 194 (.bin .eql) [.t 45,.i 10],.m 193 (.t 194)] [194]) (.cond (.T 193) [1,3,5,7,8,45] (.seq (.r [
 .o 195 (.loadF 4 true 3 false) [.t 9],.c 196 97 [],.o 197 (.eqv (.flat [.int,.int,.int]) false) [.t 195,.t 196],.m 198 (.t 197),
 .y 199 (.fieldAddr 2) [.t 10] 198,.y 200 (.loadF 5 false 1 false) [.t 199] 198,.y 201 (.bin .gtr) [.t 200,.i 0] 198,
 .o 202 .pick [.t 198,.t 201,.b false],.m 6 (.t 202)] (some []) [9,10,195,196,197,198,199,200,201,202]) .ret) [] (.seq (.g [
 .o 204 (.bin .eql) [.t 45,.i 11],.m 203 (.t 204)] [204]) (.cond (.T 203) [7,10,45] (.seq (.g [
 .o 205 (.loadF 4 true 3 false) [.t 9],.o 206 (.loadF 3 true 3 false) [.t 8],.o 207 (.eqv (.flat [.int,.int,.int]) true) [.t 205,.t 206],
 .m 208 (.t 207),.y 209 (.fieldAddr 0) [.t 9] 208,.y 210 (.loadF 4 false 1 false) [.t 209] 208,.y 211 (.bin .eql) [.t 210,.i 3] 208,
 .o 212 .pick [.t 208,.t 211,.b false],.m 213 (.t 212),.y 214 (.fieldAddr 2) [.t 9] 213,.y 215 (.loadF 4 false 1 false) [.t 214] 213,
 .y 216 (.bin .eql) [.t 215,.i 0] 213,.o 217 .pick [.t 213,.t 216,.b false],.m 218 (.t 217),
 .y 219 (.loadF 0 true 5 false) [.t 3] 218,.y 220 .move [.t 1] 218,.y 221 (.fieldAddr 4) [.t 5] 218,.y 222 (.loadF 1 false 1 false) [.t 221] 218,
 .y 223 (.loadF 4 true 3 false) [.t 9] 218,.y 224 (.call 102) [.T 219,.t 220,.t 222,.t 223] 218,.o 225 .pick [.t 218,.t 224,.b false],
 .m 6 (.t 225)] [1,3,5,8,9,205,206,207,208,209,210,211,212,213,214,215,216,217,218,219,220,221,222,223,224,225]) .ret) [] (.seq (.g [
 .o 227 (.bin .eql) [.t 45,.i 12],.m 226 (.t 227)] [227]) (.cond (.T 226) [7,8,45] (.seq (.r [.f 228 2 (.t 9),
 .l 229 4 (.t 228),.o 230 (.bin .gtr) [.t 229,.i 0],.m 231 (.t 230),.y 232 (.loadF 5 true 3 false) [.t 10] 231,
 .y 233 (.call 97) [] 231,.y 234 (.eqv (.flat [.int,.int,.int]) false) [.t 232,.t 233] 231,.o 235 .pick [.t 231,.t 234,.b false],
 .m 236 (.t 235),.y 237 (.loadF 0 true 5 false) [.t 3] 236,.y 238 .move [.t 1] 236,.y 239 (.fieldAddr 4) [.t 5] 236,
 .y 240 (.loadF 1 false 1 false) [.t 239] 236,.y 241 (.loadF 4 true 3 false) [.t 9] 236,.y 242 (.call 102) [.T 237,.t 238,.t 240,.t 241] 236,
 .o 243 .pick [.t 236,.t 242,.b false],
 .m 6 (.t 243)] (some []) [1,3,5,9,10,228,229,230,231,232,233,234,235,236,237,238,239,240,241,242,243]) .ret) [1,10] (.seq (.g [
 .o 245 (.bin .eql) [.t 45,.i 13],.m 244 (.t 245)] [245]) (.cond (.T 244) [8,9,45] (.seq (.g [
 .o 246 (.loadF 0 true 5 false) [.t 3],.o 247 (.loadF 2 true 7 false) [.t 7],.o 248 (.loadF 1 true 6 false) [.t 5],
 .c 249 103 [.T 246,.T 247,.T 248],.m 6 (.t 249)] [3,5,7,249]) .ret) [] (.seq (.seq (.g [
 .o 251 (.bin .eql) [.t 45,.i 14],.m 250 (.t 251)] [251]) (.cond (.t 250) [] .skip [250] (.g [
 .o 252 (.bin .eql) [.t 45,.i 15],.m 250 (.t 252)] [252]))) (.cond (.T 250) [3,5,7,8,45] (.seq (.r [
 .o 253 (.loadF 4 true 3 false) [.t 9],.c 254 97 [],.o 255 (.eqv (.flat [.int,.int,.int]) false) [.t 253,.t 254],
 .m 6 (.t 255)] (some []) [9,253,254,255]) .ret) [] (.seq (.g [.o 257 (.bin .eql) [.t 45,.i 16],.m 256 (.t 257)] [257])
 (.cond (.T 256) [3,8,9,45] (.seq (.g [.f 258 4 (.t 5),.l 259 1 (.t 258),
 .o 260 (.bin .geq) [.t 259,.i 0],.m 261 (.t 260),.y 262 (.fieldAddr 4) [.t 5] 261,.y 263 (.loadF 1 false 1 false) [.t 262] 261,
 .y 264 (.fieldAddr 6) [.t 7] 261,.y 265 (.loadF 2 false 1 false) [.t 264] 261,.y 266 (.len .sl) [.T 265] 261,.y 267 (.bin .lss) [.t 263,.t 266] 261,
 .o 268 .pick [.t 261,.t 267,.b false],.m 6 (.t 268)] [5,7,258,259,260,261,262,263,264,265,266,267,268]) .ret) [] (.seq (.g [
 .o 270 (.bin .eql) [.t 45,.i 17],.m 269 (.t 270)] [270]) (.cond (.T 269) [3,8,45] (.seq (.r [
 .o 271 (.loadF 4 true 3 false) [.t 9],.c 272 98 [],.o 273 (.eqv (.flat [.int,.int,.int]) false) [.t 271,.t 272],.m 274 (.t 273),
 .y 275 (.fieldAddr 4) [.t 5] 274,.y 276 (.loadF 1 false 1 false) [.t 275] 274,.y 277 (.bin .geq) [.t 276,.i 0] 274,
 .o 278 .pick [.t 274,.t 277,.b false],.m 279 (.t 278),.y 280 (.fieldAddr 4) [.t 5] 279,.y 281 (.loadF 1 false 1 false) [.t 280] 279,
 .y 282 (.fieldAddr 6) [.t 7] 279,.y 283 (.loadF 2 false 1 false) [.t 282] 279,.y 284 (.len .sl) [.T 283] 279,.y 285 (.bin .lss) [.t 281,.t 284] 279,
 .o 286 .pick [.t 279,.t 285,.b false],.m 287 (.t 286),.y 288 (.fieldAddr 3) [.t 5] 287,.y 289 (.loadF 1 false 1 false) [.t 288] 287,
 .y 290 (.bin .geq) [.t 289,.i 0] 287,.o 291 .pick [.t 287,.t 290,.b false],.m 292 (.t 291),
 .y 293 (.fieldAddr 3) [.t 5] 292,.y 294 (.loadF 1 false 1 false) [.t 293] 292,.y 295 (.fieldAddr 6) [.t 7] 292,
 .y 296 (.loadF 2 false 1 false) [.t 295] 292,.y 297 (.len .sl) [.T 296] 292,.y 298 (.bin .lss) [.t 294,.t 297] 292,
 .o 299 .pick [.t 292,.t 298,.b false],
 .m 6 (.t 299)] (some []) [5,7,9,271,272,273,274,275,276,277,278,279,280,281,282,283,284,285,286,287,288,289,290,291,292,293,294,295,296,297,298,299])
 .ret) [] (.seq (.g [.o 301 (.bin .eql) [.t 45,.i 18],.m 300 (.t 301)] [301]) (.cond (.T 300) [3,45] (.seq (.seq (.g [
 .f 302 2 (.t 7),.l 303 2 (.t 302),.o 304 (.un .not) [.t 303]] [302,303]) (.cond (.T 304) [7,8,9] (.seq (.g [
 .f 305 1 (.t 5),.l 306 1 (.t 305),.o 307 (.bin .eql) [.t 306,.const (.i (-1))],
 .m 6 (.t 307)] [5,305,306,307]) .ret) [5] .skip)) (.seq (.g [.o 308 (.loadF 4 true 3 false) [.t 9],.o 309 (.loadF 3 true 3 false) [.t 8],
 .o 310 (.eqv (.flat [.int,.int,.int]) true) [.t 308,.t 309],.m 311 (.t 310),.y 312 (.loadF 4 true 3 false) [.t 9] 311,
 .y 313 (.fieldAddr 3) [.t 7] 311,.y 314 (.loadF 2 true 3 false) [.t 313] 311,.y 315 (.eqv (.flat [.int,.int,.int]) false) [.t 312,.t 314] 311,
 .o 316 .pick [.t 311,.t 315,.b false],.m 6 (.t 316)] [7,8,9,308,309,310,311,312,313,314,315,316]) .ret)) [7] (.seq (.seq (.g [
 .o 318 (.bin .eql) [.t 45,.i 19],.m 317 (.t 318)] [318]) (.cond (.t 317) [45] .skip [317] (.g [
 .o 319 (.bin .eql) [.t 45,.i 20],.m 317 (.t 319)] [45,319]))) (.cond (.T 317) [] (.seq (.r [
 .o 320 (.loadF 4 true 3 false) [.t 9],.o 321 (.loadF 3 true 3 false) [.t 8],.o 322 (.eqv (.flat [.int,.int,.int]) true) [.t 320,.t 321],
 .m 323 (.t 322),.y 324 (.fieldAddr 4) [.t 5] 323,.y 325 (.loadF 1 false 1 false) [.t 324] 323,.y 326 (.bin .geq) [.t 325,.i 0] 323,
 .o 327 .pick [.t 323,.t 326,.b false],.m 328 (.t 327),.y 329 (.fieldAddr 4) [.t 5] 328,.y 330 (.loadF 1 false 1 false) [.t 329] 328,
 .y 331 (.fieldAddr 1) [.t 3] 328,.y 332 (.loadF 0 false 1 false) [.t 331] 328,.y 333 (.len .sl) [.T 332] 328,.y 334 (.bin .lss) [.t 330,.t 333] 328,
 .o 335 .pick [.t 328,.t 334,.b false],.m 336 (.t 335),.y 337 (.loadF 4 true 3 false) [.t 9] 336,.y 338 (.fieldAddr 1) [.t 3] 336,
 .y 339 (.loadF 0 false 1 false) [.t 338] 336,.y 340 (.fieldAddr 4) [.t 5] 336,.y 341 (.loadF 1 false 1 false) [.t 340] 336,
 .y 342 (.indexAddr 3) [.T 339,.t 341] 336,.y 343 (.load true 3 false) [.T 342] 336,.y 344 (.eqv (.flat [.int,.int,.int]) false) [.t 337,.t 343] 336,
 .o 345 .pick [.t 336,.t 344,.b false],
 .m 6 (.t 345)] (some []) [3,5,8,9,320,321,322,323,324,325,326,327,328,329,330,331,332,333,334,335,336,337,338,339,340,341,342,343,344,345])
 .ret) [3,5,8,9] .skip)))))))))))))))))))))))))))))))))))))) (.seq (.g [.m 6 (.b false)] []) .ret))))))) }
def s46_l0:SCode:=
 (.seq (.g [.o 22 (.bin .lss) [.t 21,.t 20]] []) (.seq (.cond (.T 22) [] .skip [19,20,21] (.exit 2)) (.seq (.block 3 (.seq (.g [
 .o 23 (.indexAddr 4) [.t 19,.t 21],.o 24 (.load true 4 false) [.T 23],.o 6 (.allocF 2 [.str [],.i 0,.i 0,.i 0]) [],
 .n (.storeF 2 4) [.t 6,.t 24]] [24]) (.seq (.g [.o 25 (.loadF 0 true 5 false) [.t 1],.f 26 1 (.t 6),
 .o 27 (.loadF 2 true 3 false) [.t 26],.c 28 104 [.T 25,.t 27],.o 29 (.un .not) [.t 28]] [6,26,27,28]) (.cond (.T 29) [1,8,9,10,19,20,21] (.seq
 (.g [.m 2 (.b false)] []) .ret) [] .skip)))) (.g [.o 30 (.bin .add) [.t 21,.i 1],
 .m 21 (.t 30)] [30]))))
def s46_l1:SCode:=
 (.seq (.g [.o 11 (.bin .lss) [.t 10,.t 9]] []) (.seq (.cond (.T 11) [] .skip [1,8,9,10] (.exit 0)) (.seq (.block 1 (.seq (.g [
 .o 12 (.indexAddr 2) [.t 8,.t 10],.o 13 (.load true 2 false) [.T 12],.o 4 (.allocF 1 [.str [],.nilSl]) [],.n (.storeF 1 2) [.t 4,.T 13]] []) (.seq
 (.seq (.g [.f 14 1 (.t 4),.l 15 1 (.t 14),.o 16 (.len .sl) [.T 15],
 .o 17 (.bin .gtr) [.t 16,.i 8]] [14,16]) (.cond (.T 17) [1,4,8,9,10] (.seq (.g [.m 2 (.b false)] [])
 .ret) [] .skip)) (.seq (.g [.f 18 1 (.t 4),.l 19 1 (.t 18),.o 20 (.len .sl) [.t 19],
 .m 21 (.i 0)] [4,18]) (.block 2 (.loop s46_l0)))))) (.g [.o 31 (.bin .add) [.t 10,.i 1],
 .m 10 (.t 31)] [31]))))
def s46:SFunc:={ fid:=46,mode:=.pure,nparams:=1,nboxes:=3,clr:=[],results:=[.tmp 2 false],body:=
 (.seq (.g [.o 1 (.boxF 0 5) [.T 0],.m 2 (.b false)] [2]) (.seq (.seq (.g [.f 7 0 (.t 1),
 .l 8 0 (.t 7),.o 9 (.len .sl) [.t 8],.m 10 (.i 0)] [7]) (.block 0 (.loop s46_l1))) (.seq (.g [
 .m 2 (.b true)] []) .ret))) }
def s47_l0:SCode:=
 (.seq (.g [.o 10 (.bin .lss) [.t 9,.t 8]] []) (.seq (.cond (.T 10) [] .skip [2,7,8,9] (.exit 0)) (.seq (.block 1 (.seq (.g [
 .o 11 (.indexAddr 3) [.t 7,.t 9],.o 12 (.load true 3 false) [.T 11],.o 6 (.allocF 1 [.i 0,.i 0,.i 0]) [],
 .n (.storeF 1 3) [.t 6,.t 12]] [12]) (.seq (.g [.o 13 (.loadF 0 true 5 false) [.t 2],.o 14 (.loadF 1 true 3 false) [.t 6],
 .c 15 104 [.T 13,.t 14],.o 16 (.un .not) [.t 15]] [6,14,15]) (.cond (.T 16) [2,7,8,9] (.seq (.g [
 .m 4 (.b false)] []) .ret) [] .skip)))) (.g [.o 17 (.bin .add) [.t 9,.i 1],.m 9 (.t 17)] [17]))))
def s47:SFunc:={ fid:=47,mode:=.pure,nparams:=2,nboxes:=2,clr:=[],results:=[.tmp 4 false],body:=
 (.seq (.g [.o 2 (.boxF 0 5) [.T 0],.m 4 (.b false)] [4]) (.seq (.seq (.g [.m 7 (.T 1),.o 8 (.len .sl) [.t 7],
 .m 9 (.i 0)] []) (.block 0 (.loop s47_l0))) (.seq (.g [.m 4 (.b true)] []) .ret))) }
def s48_l0:SCode:=
 (.seq (.g [.o 9 (.bin .lss) [.t 8,.t 7]] []) (.seq (.cond (.T 9) [] .skip [1,6,7,8] (.exit 0)) (.seq (.block 1 (.seq (.g [
 .o 10 (.indexAddr 4) [.t 6,.t 8],.o 11 (.load true 4 false) [.T 10],.o 4 (.allocF 1 [.i 0,.i 0,.i 0,.i 0]) [],
 .n (.storeF 1 4) [.t 4,.t 11]] [11]) (.seq (.g [.o 12 (.loadF 0 true 5 false) [.t 1],.f 13 1 (.t 4),
 .o 14 (.loadF 1 true 3 false) [.t 13],.c 15 104 [.T 12,.t 14],.o 16 (.un .not) [.t 15],.m 17 (.t 16),.z 18 (.fieldAddr 1) [.t 4] 17,
 .z 19 (.loadF 1 true 3 false) [.t 18] 17,.z 20 (.call 105) [.t 19] 17,.z 21 (.un .not) [.t 20] 17,.o 22 .pick [.t 17,.b true,.t 21],
 .m 23 (.t 22),.z 24 (.fieldAddr 0) [.t 4] 23,.z 25 (.loadF 1 false 1 false) [.t 24] 23,.z 26 (.bin .lss) [.t 25,.i 0] 23,
 .o 27 .pick [.t 23,.b true,.t 26],.m 28 (.t 27),.z 29 (.fieldAddr 0) [.t 4] 28,.z 30 (.loadF 1 false 1 false) [.t 29] 28,
 .z 31 (.fieldAddr 2) [.t 1] 28,.z 32 (.loadF 0 false 1 false) [.t 31] 28,.z 33 (.len .sl) [.T 32] 28,.z 34 (.bin .geq) [.t 30,.t 33] 28,
 .o 35 .pick [.t 28,.b true,.t 34]] [4,13,14,15,16,17,18,19,20,21,22,23,24,25,26,27,28,29,30,31,32,33,34]) (.cond (.T 35) [1,6,7,8] (.seq
 (.g [.m 2 (.b false)] []) .ret) [] .skip)))) (.g [.o 36 (.bin .add) [.t 8,.i 1],
 .m 8 (.t 36)] [36]))))
def s48:SFunc:={ fid:=48,mode:=.pure,nparams:=1,nboxes:=2,clr:=[],results:=[.tmp 2 false],body:=
 (.seq (.g [.o 1 (.boxF 0 5) [.T 0],.m 2 (.b false)] [2]) (.seq (.seq (.g [.f 5 3 (.t 1),
 .l 6 0 (.t 5),.o 7 (.len .sl) [.t 6],.m 8 (.i 0)] [5]) (.block 0 (.loop s48_l0))) (.seq (.g [
 .m 2 (.b true)] []) .ret))) }
def s49_l0:SCode:=
 (.seq (.g [.o 10 (.bin .lss) [.t 9,.t 8]] []) (.seq (.cond (.T 10) [] .skip [1,3,7,8,9] (.exit 0)) (.seq (.block 1 (.seq (.g [
 .m 11 (.t 9),.o 12 (.indexAddr 7) [.t 7,.t 9],.o 13 (.load true 7 false) [.T 12],
 .o 5 (.allocF 1 [.i 0,.nilSl,.bool false,.i 0,.i 0,.i 0,.nilSl]) [],.m 4 (.t 11),.n (.storeF 1 7) [.t 5,.T 13]] [11])
 (.seq (.g [.m 14 (.t 3),.f 15 6 (.t 5),.l 16 1 (.t 15),.o 17 (.len .sl) [.T 16],
 .o 18 (.bin .add) [.t 14,.t 17],.m 3 (.t 18)] [5,14,15,17,18]) (.seq (.g [.m 19 (.t 3),
 .o 20 (.bin .gtr) [.t 19,.i 2500],.m 21 (.t 20),.z 22 (.loadF 0 true 5 false) [.t 1] 21,.z 23 .move [.t 4] 21,
 .z 24 (.call 106) [.T 22,.t 23] 21,.z 25 (.un .not) [.t 24] 21,.o 26 .pick [.t 21,.b true,.t 25]] [4,19,20,21,22,23,24,25])
 (.cond (.T 26) [1,3,7,8,9] (.seq (.g [.m 2 (.b false)] []) .ret) [] .skip))))) (.g [
 .o 27 (.bin .add) [.t 9,.i 1],.m 9 (.t 27)] [27]))))
def s49:SFunc:={ fid:=49,mode:=.pure,nparams:=1,nboxes:=2,clr:=[],results:=[.tmp 2 false],body:=
 (.seq (.g [.o 1 (.boxF 0 5) [.T 0],.m 2 (.b false)] [2]) (.seq (.g [.m 3 (.i 0)] []) (.seq
 (.seq (.g [.f 6 2 (.t 1),.l 7 0 (.t 6),.o 8 (.len .sl) [.t 7],.m 9 (.i 0)] [6])
 (.block 0 (.loop s49_l0))) (.seq (.g [.m 2 (.b true)] []) .ret)))) }
def s50:SFunc:={ fid:=50,mode:=.scp,nparams:=2,nboxes:=1,clr:=[],results:=[],body:=
 (.seq (.g [.o 3 (.boxF 0 6) [.T 1]] []) (.g [.m 4 (.t 0),.f 5 1 (.t 3),.l 6 0 (.t 5),
 .f 7 4 (.t 3),.l 8 0 (.t 7),.c 9 107 [.t 4,.t 6,.t 8]] [0,3,4,5,6,7,8,9])) }
def s51:SFunc:={ fid:=51,mode:=.scp,nparams:=2,nboxes:=1,clr:=[],results:=[],body:=
 (.seq (.g [.o 3 (.boxF 0 6) [.T 1]] []) (.g [.m 4 (.t 0),.f 5 1 (.t 3),.l 6 0 (.t 5),
 .c 7 107 [.t 4,.t 6,.i 0]] [0,3,4,5,6,7])) }
def s52:SFunc:={ fid:=52,mode:=.scp,nparams:=2,nboxes:=1,clr:=[],results:=[],body:=
 (.seq (.g [.o 3 (.boxF 0 6) [.T 1]] []) (.r [.m 4 (.t 0),.f 5 1 (.t 3),.l 6 0 (.t 5),
 .m 7 (.t 0),.f 8 2 (.t 3),.l 9 0 (.t 8),.c 10 108 [.t 7,.t 9],
 .c 11 107 [.t 4,.t 6,.t 10]] (some []) [0,3,4,5,6,7,8,9,10,11])) }
def s53:SFunc:={ fid:=53,mode:=.scp,nparams:=2,nboxes:=1,clr:=[],results:=[],body:=
 (.seq (.g [.o 3 (.boxF 0 6) [.T 1]] []) (.r [.m 4 (.t 0),.f 5 1 (.t 3),.l 6 0 (.t 5),
 .c 7 109 [.t 4,.t 6],.f 8 4 (.t 3),.l 9 0 (.t 8),.m 10 (.t 0),.f 11 2 (.t 3),
 .l 12 0 (.t 11),.c 13 108 [.t 10,.t 12],.m 14 (.t 0),.f 15 3 (.t 3),
 .l 16 0 (.t 15),.c 17 108 [.t 14,.t 16],.c 18 110 [.t 9,.t 13,.t 17],.o 19 (.extract 0) [.t 18],
 .o 20 (.extract 1) [.t 18],.o 21 .callV [.t 7,.t 19,.t 20]] (some []) [0,3,4,5,6,7,8,9,10,11,12,13,14,15,16,17,18,19,20,21])) }
def s54:SFunc:={ fid:=54,mode:=.scp,nparams:=2,nboxes:=1,clr:=[],results:=[],body:=
 (.seq (.g [.o 3 (.boxF 0 6) [.T 1]] []) (.r [.m 4 (.t 0),.f 5 1 (.t 3),.l 6 0 (.t 5),
 .f 7 4 (.t 3),.l 8 0 (.t 7),.m 9 (.t 0),.f 10 2 (.t 3),.l 11 0 (.t 10),
 .c 12 108 [.t 9,.t 11],.c 13 111 [.t 8,.t 12],.c 14 107 [.t 4,.t 6,.t 13]] (some []) [0,3,4,5,6,7,8,9,10,11,12,13,14])) }
def s55:SFunc:={ fid:=55,mode:=.scp,nparams:=2,nboxes:=1,clr:=[],results:=[],body:=
 (.seq (.g [.o 3 (.boxF 0 6) [.T 1]] []) (.r [.m 4 (.t 0),.f 5 1 (.t 3),.l 6 0 (.t 5),
 .c 7 109 [.t 4,.t 6],.m 8 (.t 0),.o 9 .nilCheck [.t 8],.f 10 6 (.T 9),.d 11 (.T 10),.m 12 (.t 0),
 .f 13 2 (.t 3),.l 14 0 (.t 13),.c 15 108 [.t 12,.t 14],.f 16 3 (.t 3),
 .l 17 0 (.t 16),.c 18 112 [.t 11,.t 15,.t 17],.o 19 (.extract 0) [.t 18],.o 20 (.extract 1) [.t 18],
 .o 21 .callV [.t 7,.t 19,.t 20]] (some [(7,3),(7,11)]) [0,3,4,5,6,7,8,11,12,13,14,15,16,17,18,19,20,21])) }
def s56:SFunc:={ fid:=56,mode:=.scp,nparams:=2,nboxes:=1,clr:=[],results:=[],body:=
 (.seq (.g [.o 3 (.boxF 0 6) [.T 1]] []) (.r [.m 4 (.t 0),.m 5 (.t 0),.o 6 .nilCheck [.t 5],.f 7 6 (.T 6),
 .d 8 (.T 7),.m 9 (.t 0),.f 10 1 (.t 3),.l 11 0 (.t 10),.c 12 108 [.t 9,.t 11],
 .f 13 3 (.t 3),.l 14 0 (.t 13),.m 15 (.t 0),.f 16 2 (.t 3),.l 17 0 (.t 16),
 .c 18 108 [.t 15,.t 17],.c 19 114 [.t 8,.t 12,.t 14,.t 18],
 .c 20 113 [.t 4,.t 19]] (some [(4,8),(4,14)]) [0,3,4,5,8,9,10,11,12,13,14,15,16,17,18,19,20])) }
def s57:SFunc:={ fid:=57,mode:=.scp,nparams:=2,nboxes:=1,clr:=[],results:=[],body:=
 (.seq (.g [.o 3 (.boxF 0 6) [.T 1]] []) (.r [.m 4 (.t 0),.f 5 1 (.t 3),.l 6 0 (.t 5),
 .c 7 109 [.t 4,.t 6],.m 8 (.t 0),.o 9 .nilCheck [.t 8],.f 10 6 (.T 9),.d 11 (.T 10),.m 12 (.t 0),
 .f 13 2 (.t 3),.l 14 0 (.t 13),.c 15 108 [.t 12,.t 14],.m 16 (.t 0),.f 17 3 (.t 3),
 .l 18 0 (.t 17),.c 19 108 [.t 16,.t 18],.c 20 112 [.t 11,.t 15,.t 19],.o 21 (.extract 0) [.t 20],
 .o 22 (.extract 1) [.t 20],.o 23 .callV [.t 7,.t 21,.t 22]] (some [(7,3),(7,11),(7,15)]) [0,3,4,5,6,7,8,11,12,13,14,15,16,17,18,19,20,21,22,23])) }
def s58:SFunc:={ fid:=58,mode:=.scp,nparams:=2,nboxes:=1,clr:=[],results:=[],body:=
 (.seq (.g [.o 3 (.boxF 0 6) [.T 1]] []) (.r [.m 4 (.t 0),.m 5 (.t 0),.o 6 .nilCheck [.t 5],.f 7 6 (.T 6),
 .d 8 (.T 7),.m 9 (.t 0),.f 10 1 (.t 3),.l 11 0 (.t 10),.c 12 108 [.t 9,.t 11],
 .m 13 (.t 0),.f 14 2 (.t 3),.l 15 0 (.t 14),.c 16 108 [.t 13,.t 15],.m 17 (.t 0),
 .f 18 3 (.t 3),.l 19 0 (.t 18),.c 20 108 [.t 17,.t 19],.c 21 114 [.t 8,.t 12,.t 16,.t 20],
 .c 22 113 [.t 4,.t 21]] (some [(4,8),(4,12),(4,16)]) [0,3,4,5,8,9,10,11,12,13,14,15,16,17,18,19,20,21,22])) }
def s59:SFunc:={ fid:=59,mode:=.scp,nparams:=2,nboxes:=1,clr:=[],results:=[],body:=
 (.seq (.g [.o 3 (.boxF 0 6) [.T 1]] []) (.r [.m 4 (.t 0),.f 5 1 (.t 3),.l 6 0 (.t 5),
 .c 7 109 [.t 4,.t 6],.m 8 (.t 0),.o 9 .nilCheck [.t 8],.f 10 6 (.T 9),.d 11 (.T 10),.m 12 (.t 0),
 .f 13 2 (.t 3),.l 14 0 (.t 13),.c 15 108 [.t 12,.t 14],.c 16 115 [.t 11,.t 15],
 .o 17 (.extract 0) [.t 16],.o 18 (.extract 1) [.t 16],.o 19 .callV [.t 7,.t 17,.t 18]] (some [(7,3),(7,11)]) [0,3,4,5,6,7,8,11,12,13,14,15,16,17,18,19])) }
def s60:SFunc:={ fid:=60,mode:=.opn,nparams:=2,nboxes:=1,clr:=[],results:=[],body:=
 (.seq (.g [.o 3 (.boxF 0 6) [.T 1]] []) (.r [.m 4 (.t 0),.f 5 1 (.t 3),.l 6 0 (.t 5),
 .m 7 (.t 0),.o 8 .nilCheck [.t 7],.f 9 6 (.T 8),.d 10 (.T 9),.m 11 (.t 0),.o 12 .nilCheck [.t 11],
 .f 13 5 (.T 12),.d 14 (.T 13),.f 15 4 (.t 3),.l 16 0 (.t 15),
 .o 17 (.indexAddr 1) [.T 14,.t 16],.d 18 (.T 17),.c 19 116 [.t 10,.t 18],
 .c 20 107 [.t 4,.t 6,.t 19]] (some []) [0,3,4,5,6,7,10,11,15,16,18,19,20])) }
def s61:SFunc:={ fid:=61,mode:=.opn,nparams:=2,nboxes:=1,clr:=[],results:=[],body:=
 (.seq (.g [.o 3 (.boxF 0 6) [.T 1]] []) (.r [.m 4 (.t 0),.f 5 1 (.t 3),.l 6 0 (.t 5),
 .c 7 109 [.t 4,.t 6],.m 8 (.t 0),.o 9 .nilCheck [.t 8],.f 10 6 (.T 9),.d 11 (.T 10),.m 12 (.t 0),
 .f 13 2 (.t 3),.l 14 0 (.t 13),.c 15 108 [.t 12,.t 14],.c 16 117 [.t 11,.t 15],
 .o 17 (.extract 0) [.t 16],.o 18 (.extract 1) [.t 16],.o 19 .callV [.t 7,.t 17,.t 18]] (some [(7,3),(7,11)]) [0,3,4,5,6,7,8,11,12,13,14,15,16,17,18,19])) }
def s62:SFunc:={ fid:=62,mode:=.opn,nparams:=2,nboxes:=1,clr:=[],results:=[],body:=
 (.seq (.g [.o 3 (.boxF 0 6) [.T 1]] []) (.seq (.seq (.g [.m 5 (.t 0),.o 6 .nilCheck [.t 5],.f 7 9 (.T 6),
 .d 8 (.T 7),.o 9 (.len .sl) [.T 8],.o 10 (.bin .geq) [.t 9,.i 40]] [5,9]) (.cond (.T 10) [3] (.seq (.g [
 .m 11 (.t 0),.c 12 113 [.t 11,.i 6]] [0,11,12]) .ret) [] .skip)) (.seq (.g [.m 13 (.t 0),
 .f 14 3 (.t 3),.l 15 0 (.t 14),.f 16 1 (.t 3),.l 17 0 (.t 16),
 .c 18 21 [.t 13,.t 15,.t 17],.m 4 (.t 18)] [13,14,15,16,17,18]) (.seq (.r [.m 19 (.t 4),.o 20 .nilCheck [.t 19],
 .f 21 2 (.T 20),.d 22 (.T 21),.f 23 5 (.t 3),.l 24 0 (.t 23),.m 25 (.t 0),
 .o 26 (.makeFunc 108 1) [.t 25],.c 27 118 [.T 24,.t 26],.o 28 (.copy 1) [.T 22,.T 27]] (some [(3,8)]) [3,19,23,25,26,28]) (.g [
 .m 29 (.t 0),.m 30 (.t 0),.o 31 .nilCheck [.t 30],.f 32 9 (.T 31),.d 33 (.T 32),.m 34 (.t 4),
 .o 35 (.litM 1 1 [.nilPtr] [0]) [.t 34],.o 36 (.appendM 1 8) [.T 33,.T 35],.o 37 .nilCheck [.t 29],.f 38 9 (.T 37),
 .n (.store 1) [.T 38,.T 36]] [0,4,29,30,34]))))) }
def s63:SFunc:={ fid:=63,mode:=.scp,nparams:=2,nboxes:=1,clr:=[],results:=[],body:=
 (.seq (.g [.o 3 (.boxF 0 6) [.T 1]] []) (.seq (.seq (.g [.m 4 (.t 0),.o 5 .nilCheck [.t 4],.f 6 7 (.T 5),
 .d 7 (.T 6),.o 8 (.len .sl) [.T 7],.o 9 (.bin .eql) [.t 8,.i 0]] [4,8]) (.cond (.T 9) [3] (.seq (.g [
 .m 10 (.t 0),.c 11 113 [.t 10,.i 5]] [0,10,11]) .ret) [] .skip)) (.seq (.r [.m 12 (.t 0),
 .f 13 1 (.t 3),.l 14 0 (.t 13),.m 15 (.t 0),.o 16 .nilCheck [.t 15],.f 17 7 (.T 16),
 .d 18 (.T 17),.o 19 (.indexAddr 1) [.T 18,.i 0],.d 20 (.T 19),
 .c 21 107 [.t 12,.t 14,.t 20]] (some []) [3,12,13,14,15,20,21]) (.g [.m 22 (.t 0),.m 23 (.t 0),.o 24 .nilCheck [.t 23],
 .f 25 7 (.T 24),.d 26 (.T 25),.o 27 (.slice false true false false 1) [.T 26,.i 1],
 .o 28 .nilCheck [.t 22],.f 29 7 (.T 28),.n (.store 1) [.T 29,.T 27]] [0,22,23])))) }
def s64:SFunc:={ fid:=64,mode:=.opn,nparams:=2,nboxes:=1,clr:=[],results:=[],body:=
 (.seq (.g [.o 3 (.boxF 0 6) [.T 1]] []) (.r [.m 4 (.t 0),.m 5 (.t 0),.o 6 .nilCheck [.t 5],.f 7 11 (.T 6),
 .f 8 2 (.T 7),.d 9 (.T 8),.m 10 (.t 0),.f 11 1 (.t 3),.l 12 0 (.t 11),
 .c 13 108 [.t 10,.t 12],.o 14 (.lit 1 1 [.i 0] [0]) [.t 13],.o 15 (.appendM 1 8) [.T 9,.T 14],.o 16 .nilCheck [.t 4],
 .f 17 11 (.T 16),.f 18 2 (.T 17),.n (.store 1) [.T 18,.T 15]] (some [(5,9)]) [0,3,4,5,10,11,12,13])) }
def s65:SFunc:={ fid:=65,mode:=.scp,nparams:=2,nboxes:=1,clr:=[],results:=[],body:=
 (.seq (.g [.o 3 (.boxF 0 6) [.T 1]] []) (.r [.m 4 (.t 0),.c 5 22 [.t 4],.f 6 4 (.t 3),
 .l 7 0 (.t 6),.o 8 .nilCheck [.t 5],.f 9 1 (.T 8),.n (.store 1) [.T 9,.t 7]] (some []) [0,3,4,5,6,7])) }
def s66:SFunc:={ fid:=66,mode:=.scp,nparams:=2,nboxes:=1,clr:=[],results:=[],body:=
 (.seq (.g [.o 3 (.boxF 0 6) [.T 1]] []) (.seq (.seq (.g [.m 4 (.t 0),.f 5 1 (.t 3),.l 6 0 (.t 5),
 .c 7 108 [.t 4,.t 6],.o 8 (.bin .neq) [.t 7,.i 0]] [4,5,6,7]) (.cond (.T 8) [] (.seq (.r [.m 9 (.t 0),
 .c 10 22 [.t 9],.f 11 4 (.t 3),.l 12 0 (.t 11),.o 13 .nilCheck [.t 10],.f 14 1 (.T 13),
 .n (.store 1) [.T 14,.t 12]] (some []) [0,3,9,10,11,12]) .ret) [] .skip)) (.r [.m 15 (.t 0),.c 16 22 [.t 15],
 .f 17 3 (.t 3),.l 18 0 (.t 17),.o 19 .nilCheck [.t 16],.f 20 1 (.T 19),
 .n (.store 1) [.T 20,.t 18]] (some []) [0,3,15,16,17,18]))) }
def s67:SFunc:={ fid:=67,mode:=.opn,nparams:=2,nboxes:=1,clr:=[],results:=[],body:=
 (.seq (.g [.o 3 (.boxF 0 6) [.T 1]] []) (.seq (.g [.m 6 (.t 0),.c 7 22 [.t 6],.m 4 (.t 7),
 .m 5 (.i 0)] [6,7]) (.seq (.seq (.g [.f 8 1 (.t 3),.l 9 0 (.t 8),
 .o 10 (.bin .geq) [.t 9,.i 0]] [8,9]) (.cond (.T 10) [5] (.g [.m 11 (.t 0),.f 12 1 (.t 3),
 .l 13 0 (.t 12),.c 14 108 [.t 11,.t 13],.m 5 (.t 14)] [3,11,12,13,14]) [3] .skip)) (.seq (.r [
 .m 15 (.t 0),.m 16 (.t 0),.o 17 .nilCheck [.t 16],.f 18 9 (.T 17),.d 19 (.T 18),.m 20 (.t 0),
 .o 21 .nilCheck [.t 20],.f 22 9 (.T 21),.d 23 (.T 22),.o 24 (.len .sl) [.T 23],
 .o 25 (.bin .sub) [.t 24,.i 1],.o 26 (.sliceM 1) [.T 19,.t 25],.o 27 .nilCheck [.t 15],.f 28 9 (.T 27),
 .n (.store 1) [.T 28,.T 26]] (some []) [15,16,20,24,25]) (.block 0 (.seq (.g [.m 30 (.t 0),.o 31 .nilCheck [.t 30],.f 32 9 (.T 31),
 .d 33 (.T 32),.o 34 (.len .sl) [.T 33],.o 35 (.bin .eql) [.t 34,.i 0],.m 29 (.t 35)] [30,34,35])
 (.cond (.T 29) [4,5] (.g [.m 36 (.t 0),.o 37 .nilCheck [.t 36],.f 38 11 (.T 37),.f 39 0 (.T 38),
 .n (.store 1) [.T 39,.i 1]] [0,36]) [] (.seq (.g [.m 41 (.t 4),.o 42 .nilCheck [.t 41],.f 43 3 (.T 42),
 .d 44 (.T 43),.o 45 (.bin .geq) [.t 44,.i 0],.m 40 (.t 45)] [41,44,45]) (.cond (.T 40) [] (.g [
 .m 46 (.t 0),.m 47 (.t 4),.o 48 .nilCheck [.t 47],.f 49 3 (.T 48),.d 50 (.T 49),.m 51 (.t 5),
 .c 52 107 [.t 46,.t 50,.t 51]] [0,4,5,46,47,50,51,52]) [0,4,5] .skip))))))))) }
def s68:SFunc:={ fid:=68,mode:=.scp,nparams:=2,nboxes:=1,clr:=[],results:=[],body:=
 (.seq (.g [.o 3 (.boxF 0 6) [.T 1]] []) (.r [.m 4 (.t 0),.f 5 1 (.t 3),.l 6 0 (.t 5),
 .m 7 (.t 0),.o 8 .nilCheck [.t 7],.f 9 8 (.T 8),.d 10 (.T 9),.f 11 4 (.t 3),
 .l 12 0 (.t 11),.o 13 (.indexAddr 1) [.T 10,.t 12],.d 14 (.T 13),
 .c 15 107 [.t 4,.t 6,.t 14]] (some []) [0,3,4,5,6,7,11,12,14,15])) }
def s69:SFunc:={ fid:=69,mode:=.scp,nparams:=2,nboxes:=1,clr:=[],results:=[],body:=
 (.seq (.g [.o 3 (.boxF 0 6) [.T 1]] []) (.r [.m 4 (.t 0),.o 5 .nilCheck [.t 4],.f 6 8 (.T 5),
 .d 7 (.T 6),.f 8 4 (.t 3),.l 9 0 (.t 8),.m 10 (.t 0),.f 11 1 (.t 3),
 .l 12 0 (.t 11),.c 13 108 [.t 10,.t 12],.o 14 (.indexAddr 1) [.T 7,.t 9],
 .n (.store 1) [.T 14,.t 13]] (some [(3,9)]) [0,3,4,8,9,10,11,12,13])) }
def s70:SFunc:={ fid:=70,mode:=.pure,nparams:=3,nboxes:=0,clr:=[],results:=[.tmp 6 false,.tmp 7 false],body:=
 (.seq (.g [.m 6 (.i 0),.m 7 (.i 0)] [6,7]) (.seq (.seq (.g [.m 8 (.t 0)] [])
 (.block 0 (.seq (.g [.o 10 (.bin .eql) [.t 8,.i 14],.m 9 (.t 10)] [10]) (.cond (.T 9) [0,8] (.seq (.g [
 .m 11 (.t 1),.m 12 (.t 2),.o 13 (.bin .add) [.t 11,.t 12],.m 6 (.t 13),.m 7 (.i 0)] [1,2,11,12,13]) .ret) []
 (.seq (.g [.o 15 (.bin .eql) [.t 8,.i 15],.m 14 (.t 15)] [15]) (.cond (.T 14) [0,8] (.seq (.g [.m 16 (.t 1),
 .m 17 (.t 2),.o 18 (.bin .sub) [.t 16,.t 17],.m 6 (.t 18),.m 7 (.i 0)] [1,2,16,17,18]) .ret) [] (.seq (.g [
 .o 20 (.bin .eql) [.t 8,.i 16],.m 19 (.t 20)] [20]) (.cond (.T 19) [0,8] (.seq (.g [.m 21 (.t 1),.m 22 (.t 2),
 .o 23 (.bin .mul) [.t 21,.t 22],.m 6 (.t 23),.m 7 (.i 0)] [1,2,21,22,23]) .ret) [] (.seq (.seq (.g [
 .o 25 (.bin .eql) [.t 8,.i 17],.m 24 (.t 25)] [25]) (.cond (.t 24) [] .skip [24] (.g [
 .o 26 (.bin .eql) [.t 8,.i 18],.m 24 (.t 26)] [26]))) (.cond (.T 24) [8] (.seq (.g [.m 27 (.t 0),.m 28 (.t 1),
 .m 29 (.t 2),.c 30 119 [.t 27,.t 28,.t 29],.o 31 (.extract 0) [.t 30],.o 32 (.extract 1) [.T 30],.m 6 (.t 31),
 .m 7 (.t 32)] [0,1,2,27,28,29,31,32]) .ret) [0] (.seq (.g [.o 34 (.bin .eql) [.t 8,.i 19],.m 33 (.t 34)] [34])
 (.cond (.T 33) [8] (.seq (.g [.m 35 (.t 1),.m 36 (.t 2),.o 37 (.bin .lss) [.t 35,.t 36],.c 38 120 [.t 37],.m 6 (.t 38),
 .m 7 (.i 0)] [1,2,35,36,37,38]) .ret) [] (.seq (.g [.o 40 (.bin .eql) [.t 8,.i 20],
 .m 39 (.t 40)] [40]) (.cond (.T 39) [8] (.seq (.g [.m 41 (.t 1),.m 42 (.t 2),.o 43 (.bin .leq) [.t 41,.t 42],
 .c 44 120 [.t 43],.m 6 (.t 44),.m 7 (.i 0)] [1,2,41,42,43,44]) .ret) [] (.seq (.g [
 .o 46 (.bin .eql) [.t 8,.i 21],.m 45 (.t 46)] [46]) (.cond (.T 45) [8] (.seq (.g [.m 47 (.t 1),.m 48 (.t 2),
 .o 49 (.bin .eql) [.t 47,.t 48],.c 50 120 [.t 49],.m 6 (.t 50),.m 7 (.i 0)] [1,2,47,48,49,50]) .ret) [] (.seq
 (.g [.o 52 (.bin .eql) [.t 8,.i 22],.m 51 (.t 52)] [52]) (.cond (.T 51) [8] (.seq (.g [.m 53 (.t 1),
 .m 54 (.t 2),.o 55 (.bin .neq) [.t 53,.t 54],.c 56 120 [.t 55],.m 6 (.t 56),.m 7 (.i 0)] [1,2,53,54,55,56])
 .ret) [] (.seq (.g [.o 58 (.bin .eql) [.t 8,.i 23],.m 57 (.t 58)] [58]) (.cond (.T 57) [8] (.seq (.g [
 .m 59 (.t 1),.o 60 (.bin .neq) [.t 59,.i 0],.m 61 (.t 60),.y 62 .move [.t 2] 61,
 .y 63 (.bin .neq) [.t 62,.i 0] 61,.o 64 .pick [.t 61,.t 63,.b false],.c 65 120 [.t 64],.m 6 (.t 65),
 .m 7 (.i 0)] [1,2,59,60,61,62,63,64,65]) .ret) [] (.seq (.g [.o 67 (.bin .eql) [.t 8,.i 24],
 .m 66 (.t 67)] [8,67]) (.cond (.T 66) [] (.seq (.g [.m 68 (.t 1),.o 69 (.bin .neq) [.t 68,.i 0],.m 70 (.t 69),
 .z 71 .move [.t 2] 70,.z 72 (.bin .neq) [.t 71,.i 0] 70,.o 73 .pick [.t 70,.b true,.t 72],.c 74 120 [.t 73],
 .m 6 (.t 74),.m 7 (.i 0)] [1,2,68,69,70,71,72,73,74]) .ret) [1,2] .skip)))))))))))))))))))))) (.seq (.g [
 .m 6 (.i 0),.m 7 (.i 0)] []) .ret))) }
def s71:SFunc:={ fid:=71,mode:=.pure,nparams:=2,nboxes:=0,clr:=[],results:=[.tmp 4 false],body:=
 (.seq (.g [.m 4 (.i 0)] [4]) (.seq (.seq (.g [.m 5 (.t 0)] [0]) (.block 0 (.seq (.g [
 .o 7 (.bin .eql) [.t 5,.i 12],.m 6 (.t 7)] [7]) (.cond (.T 6) [5] (.seq (.g [.m 8 (.t 1),
 .o 9 (.bin .sub) [.i 0,.t 8],.m 4 (.t 9)] [1,8,9]) .ret) [] (.seq (.g [.o 11 (.bin .eql) [.t 5,.i 13],
 .m 10 (.t 11)] [5,11]) (.cond (.T 10) [] (.seq (.g [.m 12 (.t 1),.o 13 (.bin .eql) [.t 12,.i 0],
 .c 14 120 [.t 13],.m 4 (.t 14)] [1,12,13,14]) .ret) [1] .skip)))))) (.seq (.g [.m 4 (.i 0)] []) .ret))) }
def s72:SFunc:={ fid:=72,mode:=.scp,nparams:=3,nboxes:=0,clr:=[],results:=[.tmp 6 false,.tmp 7 false],body:=
 (.seq (.g [.m 6 (.i 0),.m 7 (.i 0)] [6,7]) (.seq (.g [.m 11 (.t 0),.m 12 (.t 1),
 .c 13 74 [.t 11,.t 12],.m 10 (.T 13),.o 14 (.extract 0) [.t 10],.o 15 (.extract 1) [.T 10],.m 8 (.t 14),
 .m 9 (.t 15)] [11,12,14,15]) (.seq (.block 0 (.seq (.g [.m 17 (.t 9),.o 18 (.bin .neq) [.t 17,.i 0],
 .m 16 (.t 18)] [17,18]) (.cond (.T 16) [0,1,2,8] (.seq (.g [.m 19 (.t 9),.m 6 (.i 0),
 .m 7 (.t 19)] [9,19]) .ret) [9] (.seq (.g [.m 21 (.t 2),.o 22 (.bin .lss) [.t 21,.i 0],.m 23 (.t 22),
 .z 24 .move [.t 2] 23,.z 25 .move [.t 8] 23,.z 26 (.bin .geq) [.t 24,.t 25] 23,.o 27 .pick [.t 23,.b true,.t 26],
 .m 20 (.t 27)] [8,21,22,23,24,25,26,27]) (.cond (.T 20) [0,1,2] (.seq (.g [.m 6 (.i 0),
 .m 7 (.i 2)] []) .ret) [] .skip))))) (.seq (.g [.m 28 (.t 0),.o 29 .nilCheck [.t 28],.f 30 0 (.T 29),
 .d 31 (.T 30),.m 32 (.t 1),.o 33 (.bin .sub) [.t 32,.i 1],.o 34 (.indexAddr 1) [.T 31,.t 33],
 .d 35 (.T 34),.m 36 (.t 2),.o 37 (.indexAddr 1) [.T 35,.t 36],.d 38 (.T 37),.m 6 (.t 38),
 .m 7 (.i 0)] [0,1,2,28,32,33,36,38]) .ret)))) }
def s73:SFunc:={ fid:=73,mode:=.scp,nparams:=4,nboxes:=0,clr:=[],results:=[.tmp 8 false],body:=
 (.seq (.g [.m 8 (.i 0)] [8]) (.seq (.g [.m 12 (.t 0),.m 13 (.t 1),.m 14 (.t 2),
 .c 15 72 [.t 12,.t 13,.t 14],.m 11 (.T 15),.o 16 (.extract 0) [.t 11],.o 17 (.extract 1) [.T 11],.m 9 (.t 16),
 .m 10 (.t 17)] [9,12,13,14,16,17]) (.seq (.seq (.g [.m 18 (.t 10),.o 19 (.bin .eql) [.t 18,.i 0]] [18])
 (.cond (.T 19) [] (.g [.m 20 (.t 0),.o 21 .nilCheck [.t 20],.f 22 0 (.T 21),.d 23 (.T 22),
 .m 24 (.t 1),.o 25 (.bin .sub) [.t 24,.i 1],.o 26 (.indexAddr 1) [.T 23,.t 25],.d 27 (.T 26),
 .m 28 (.t 2),.m 29 (.t 3),.o 30 (.indexAddr 1) [.T 27,.t 28],.n (.store 1) [.T 30,.t 29]] [0,1,2,3,20,24,25,28,29]) [0,1,2,3] .skip))
 (.seq (.g [.m 31 (.t 10),.m 8 (.t 31)] [10,31]) .ret)))) }
def s74:SFunc:={ fid:=74,mode:=.scp,nparams:=2,nboxes:=0,clr:=[],results:=[.tmp 4 false,.tmp 5 false],body:=
 (.seq (.g [.m 4 (.i 0),.m 5 (.i 0)] [4,5]) (.seq (.seq (.g [.m 6 (.t 1),
 .o 7 (.bin .lss) [.t 6,.i 1],.m 8 (.t 7),.z 9 .move [.t 1] 8,.z 10 .move [.t 0] 8,.z 11 .nilCheck [.t 10] 8,
 .z 12 (.fieldAddr 0) [.T 11] 8,.z 13 (.load false 1 false) [.T 12] 8,.z 14 (.len .sl) [.T 13] 8,.z 15 (.bin .gtr) [.t 9,.t 14] 8,
 .o 16 .pick [.t 8,.b true,.t 15]] [6,7,8,9,10,11,12,13,14,15]) (.cond (.T 16) [0,1] (.seq (.g [.m 4 (.i 0),
 .m 5 (.i 1)] []) .ret) [] .skip)) (.seq (.g [.m 17 (.t 0),.o 18 .nilCheck [.t 17],.f 19 0 (.T 18),
 .d 20 (.T 19),.m 21 (.t 1),.o 22 (.bin .sub) [.t 21,.i 1],.o 23 (.indexAddr 1) [.T 20,.t 22],
 .d 24 (.T 23),.o 25 (.len .sl) [.T 24],.m 4 (.t 25),.m 5 (.i 0)] [0,1,17,21,22,25]) .ret))) }
def s75:SFunc:={ fid:=75,mode:=.opn,nparams:=2,nboxes:=0,clr:=[],results:=[.tmp 4 false],body:=
 (.seq (.g [.m 4 (.i 0)] [4]) (.seq (.r [.m 5 (.t 0),.m 6 (.t 0),.o 7 .nilCheck [.t 6],
 .f 8 0 (.T 7),.d 9 (.T 8),.m 10 (.t 1),.o 11 (.minmax false) [.t 10,.i 8],
 .o 12 (.minmax true) [.i 0,.t 11],.o 13 (.makeSl 1 8 [.i 0] true) [.t 12,.t 12],.o 14 (.litM 1 1 [.nilSl] [0]) [.T 13],
 .o 15 (.appendM 1 24) [.T 9,.T 14],.o 16 .nilCheck [.t 5],.f 17 0 (.T 16),.n (.store 1) [.T 17,.T 15]] (some [(4,8),(4,9)]) [1,5,6,10,11,12])
 (.seq (.g [.m 18 (.t 0),.o 19 .nilCheck [.t 18],.f 20 0 (.T 19),.d 21 (.T 20),.o 22 (.len .sl) [.T 21],
 .m 4 (.t 22)] [0,18,22]) .ret))) }
def s76_l0:SCode:=
 (.seq (.seq (.g [.m 20 (.t 7),.f 21 0 (.t 2),.l 22 0 (.t 21),.f 23 1 (.t 5),
 .l 24 1 (.t 23),.o 25 (.indexAddr 2) [.T 22,.t 24],.f 26 1 (.T 25),.d 27 (.T 26),
 .o 28 (.len .sl) [.T 27],.o 29 (.bin .lss) [.t 20,.t 28]] [20,21,23,24,28]) (.cond (.T 29) [] .skip [2,5,7] (.exit 0))) (.seq (.block 1 (.g [
 .m 32 (.T 6),.f 33 0 (.t 2),.l 34 0 (.t 33),.f 35 1 (.t 5),.l 36 1 (.t 35),
 .o 37 (.indexAddr 2) [.T 34,.t 36],.f 38 1 (.T 37),.d 39 (.T 38),.m 40 (.t 7),.o 41 (.indexAddr 4) [.T 39,.t 40],
 .f 42 1 (.T 41),.o 43 (.load true 3 false) [.T 42],.o 44 (.lit 3 1 [.i 0,.i 0,.i 0] [0]) [.t 43],
 .o 45 (.append 3 24) [.T 32,.T 44],.m 6 (.T 45)] [33,35,36,40,43])) (.g [.m 30 (.t 7),.o 31 (.bin .add) [.t 30,.i 1],
 .m 7 (.t 31)] [30,31])))
def s76:SFunc:={ fid:=76,mode:=.pure,nparams:=2,nboxes:=2,clr:=[],results:=[.tmp 4 true],body:=
 (.seq (.g [.o 2 (.boxF 0 5) [.T 0],.o 4 .move [.const .nilSl]] [4]) (.seq (.g [.f 8 3 (.t 2),
 .l 9 0 (.t 8),.m 10 (.t 1),.o 11 (.indexAddr 4) [.T 9,.t 10],.f 12 1 (.T 11),.o 13 (.load true 3 false) [.T 12],
 .o 5 (.allocF 1 [.i 0,.i 0,.i 0]) [],.n (.storeF 1 3) [.t 5,.t 13]] [1,8,10,13]) (.seq (.seq (.g [
 .f 14 2 (.t 5),.l 15 1 (.t 14),.o 16 (.bin .gtr) [.t 15,.i 0]] [14,15]) (.cond (.T 16) [2] (.seq
 (.g [.o 17 (.loadF 1 true 3 false) [.t 5],.c 18 101 [.t 17],.o 19 (.lit 3 1 [.i 0,.i 0,.i 0] [0]) [.t 18],
 .m 4 (.T 19)] [5,17,18]) .ret) [] .skip)) (.seq (.g [.o 6 .move [.const .nilSl]] []) (.seq (.seq (.g [
 .m 7 (.i 0)] []) (.block 0 (.loop s76_l0))) (.seq (.g [.m 46 (.T 6),.m 4 (.T 46)] []) .ret)))))) }
def s77:SFunc:={ fid:=77,mode:=.opn,nparams:=2,nboxes:=0,clr:=[],results:=[.tmp 4 false,.tmp 5 false],body:=
 (.seq (.g [.m 4 (.i 0),.m 5 (.i 0)] [4,5]) (.seq (.seq (.g [.m 6 (.t 1),
 .o 7 (.bin .lss) [.t 6,.i 0],.m 8 (.t 7),.z 9 .move [.t 1] 8,.z 10 (.bin .gtr) [.t 9,.i 50] 8,
 .o 11 .pick [.t 8,.b true,.t 10]] [6,7,8,9,10]) (.cond (.T 11) [0,1] (.seq (.g [.m 4 (.i 0),
 .m 5 (.i 4)] []) .ret) [] .skip)) (.seq (.r [.m 12 (.t 0),.m 13 (.t 0),.o 14 .nilCheck [.t 13],
 .f 15 0 (.T 14),.d 16 (.T 15),.m 17 (.t 1),.o 18 (.makeSl 1 8 [.i 0] true) [.t 17,.t 17],
 .o 19 (.litM 1 1 [.nilSl] [0]) [.T 18],.o 20 (.appendM 1 24) [.T 16,.T 19],.o 21 .nilCheck [.t 12],.f 22 0 (.T 21),
 .n (.store 1) [.T 22,.T 20]] (some [(4,6),(4,7)]) [1,12,13,17]) (.seq (.g [.m 23 (.t 0),.o 24 .nilCheck [.t 23],.f 25 0 (.T 24),
 .d 26 (.T 25),.o 27 (.len .sl) [.T 26],.m 4 (.t 27),.m 5 (.i 0)] [0,23,27]) .ret)))) }
def s78_l0:SCode:=
 (.seq (.seq (.g [.m 16 (.t 7),.f 17 5 (.t 4),.l 18 0 (.t 17),.o 19 (.len .sl) [.T 18],
 .o 20 (.bin .lss) [.t 16,.t 19]] [16,17,19]) (.cond (.T 20) [] .skip [2,7] (.exit 0))) (.seq (.block 1 (.g [.m 23 (.T 6),.m 24 (.t 2),
 .f 25 5 (.t 4),.l 26 0 (.t 25),.m 27 (.t 7),.o 28 (.indexAddr 1) [.T 26,.t 27],
 .d 29 (.T 28),.o 30 (.indexAddr 1) [.T 24,.t 29],.d 31 (.T 30),.o 32 (.lit 1 1 [.i 0] [0]) [.t 31],
 .o 33 (.append 1 8) [.T 23,.T 32],.m 6 (.T 33)] [25,27,29,31])) (.g [.m 21 (.t 7),.o 22 (.bin .add) [.t 21,.i 1],
 .m 7 (.t 22)] [21,22])))
def s78:SFunc:={ fid:=78,mode:=.opn,nparams:=3,nboxes:=1,clr:=[],results:=[],body:=
 (.seq (.g [.o 4 (.boxF 0 6) [.T 1]] []) (.seq (.seq (.g [.m 8 (.t 0),.o 9 .nilCheck [.t 8],.f 10 8 (.T 9),
 .d 11 (.T 10),.o 12 (.len .sl) [.T 11],.o 13 (.bin .geq) [.t 12,.i 40]] [8,12]) (.cond (.T 13) [2,4] (.seq
 (.g [.m 14 (.t 0),.c 15 80 [.t 14,.i 6]] [0,14,15]) .ret) [] .skip)) (.seq (.g [
 .o 6 .move [.const .nilSl]] []) (.seq (.seq (.g [.m 7 (.i 0)] []) (.block 0 (.loop s78_l0))) (.g [
 .m 34 (.t 0),.f 35 3 (.t 4),.l 36 0 (.t 35),.f 37 1 (.t 4),.l 38 0 (.t 37),
 .m 39 (.T 6),.c 40 23 [.t 34,.t 36,.t 38,.T 39]] [0,4,34,35,36,37,38,40]))))) }
def s79:SFunc:={ fid:=79,mode:=.opn,nparams:=2,nboxes:=0,clr:=[],results:=[],body:=
 (.seq (.r [.m 5 (.t 0),.o 6 .nilCheck [.t 5],.f 7 8 (.T 6),.d 8 (.T 7),.m 9 (.t 0),
 .o 10 .nilCheck [.t 9],.f 11 8 (.T 10),.d 12 (.T 11),.o 13 (.len .sl) [.T 12],
 .o 14 (.bin .sub) [.t 13,.i 1],.o 15 (.indexAddr 4) [.T 8,.t 14],.f 16 2 (.T 15),.d 17 (.T 16),
 .m 4 (.t 17)] (some []) [5,9,13,14,17]) (.seq (.r [.m 18 (.t 0),.m 19 (.t 0),.o 20 .nilCheck [.t 19],.f 21 8 (.T 20),
 .d 22 (.T 21),.m 23 (.t 0),.o 24 .nilCheck [.t 23],.f 25 8 (.T 24),.d 26 (.T 25),
 .o 27 (.len .sl) [.T 26],.o 28 (.bin .sub) [.t 27,.i 1],.o 29 (.sliceM 4) [.T 22,.t 28],.o 30 .nilCheck [.t 18],
 .f 31 8 (.T 30),.n (.store 1) [.T 31,.T 29]] (some []) [18,19,23,27,28]) (.seq (.seq (.g [.m 32 (.t 0),.o 33 .nilCheck [.t 32],
 .f 34 8 (.T 33),.d 35 (.T 34),.o 36 (.len .sl) [.T 35],.o 37 (.bin .eql) [.t 36,.i 0]] [32,36])
 (.cond (.T 37) [1,4] (.seq (.g [.m 38 (.t 0),.o 39 .nilCheck [.t 38],.f 40 9 (.T 39),.f 41 0 (.T 40),
 .n (.store 1) [.T 41,.i 1]] [0,38]) .ret) [] .skip)) (.seq (.g [.m 42 (.t 4),
 .o 43 (.bin .geq) [.t 42,.i 0]] [42]) (.cond (.T 43) [] (.r [.m 44 (.t 0),.o 45 .nilCheck [.t 44],
 .f 46 8 (.T 45),.d 47 (.T 46),.m 48 (.t 0),.o 49 .nilCheck [.t 48],.f 50 8 (.T 49),
 .d 51 (.T 50),.o 52 (.len .sl) [.T 51],.o 53 (.bin .sub) [.t 52,.i 1],.o 54 (.indexAddr 4) [.T 47,.t 53],
 .f 55 3 (.T 54),.d 56 (.T 55),.m 57 (.t 4),.m 58 (.t 1),.o 59 (.indexAddr 1) [.T 56,.t 57],
 .n (.store 1) [.T 59,.t 58]] (some []) [0,1,4,44,48,52,53,57,58]) [0,1,4] .skip))))) }
def s80:SFunc:={ fid:=80,mode:=.scp,nparams:=2,nboxes:=0,clr:=[],results:=[],body:=
 (.seq (.g [.m 4 (.t 1),.o 5 (.bin .neq) [.t 4,.i 0]] [4]) (.cond (.T 5) [] (.seq (.g [.m 6 (.t 0),
 .o 7 .nilCheck [.t 6],.f 8 9 (.T 7),.f 9 0 (.T 8),.n (.store 1) [.T 9,.i 2]] [6]) (.g [
 .m 10 (.t 0),.m 11 (.t 1),.o 12 .nilCheck [.t 10],.f 13 9 (.T 12),.f 14 1 (.T 13),
 .n (.store 1) [.T 14,.t 11]] [0,1,10,11])) [0,1] .skip)) }
def s95:SFunc:={ fid:=95,mode:=.pure,nparams:=1,nboxes:=1,clr:=[],results:=[.tmp 2 false],body:=
 (.seq (.g [.o 1 (.boxF 0 6) [.T 0],.m 2 (.b false)] [2]) (.seq (.g [.m 3 (.b false),
 .m 4 (.b false),.m 5 (.b false),.m 6 (.b false)] []) (.seq (.seq (.g [
 .f 7 0 (.t 1),.l 8 0 (.t 7)] [7]) (.block 0 (.seq (.seq (.g [.o 10 (.bin .eql) [.t 8,.i 1],
 .m 9 (.t 10)] [10]) (.cond (.t 9) [] .skip [9] (.seq (.g [.o 11 (.bin .eql) [.t 8,.i 11],.m 9 (.t 11)] [11])
 (.cond (.t 9) [] .skip [9] (.seq (.g [.o 12 (.bin .eql) [.t 8,.i 19],.m 9 (.t 12)] [12]) (.cond (.t 9) [] .skip [9]
 (.g [.o 13 (.bin .eql) [.t 8,.i 20],.m 9 (.t 13)] [13]))))))) (.cond (.T 9) [5,8] (.g [
 .m 5 (.b true)] []) [] (.seq (.seq (.g [.o 15 (.bin .eql) [.t 8,.i 3],.m 14 (.t 15)] [15])
 (.cond (.t 14) [] .skip [14] (.g [.o 16 (.bin .eql) [.t 8,.i 10],.m 14 (.t 16)] [16]))) (.cond (.T 14) [3,8] (.g [
 .m 3 (.b true)] []) [] (.seq (.g [.o 18 (.bin .eql) [.t 8,.i 4],.m 17 (.t 18)] [18])
 (.cond (.T 17) [3,4,5,8] (.g [.m 3 (.b true),.m 4 (.b true),.m 5 (.b true)] []) [] (.seq
 (.seq (.g [.o 20 (.bin .eql) [.t 8,.i 5],.m 19 (.t 20)] [20]) (.cond (.t 19) [] .skip [19] (.g [
 .o 21 (.bin .eql) [.t 8,.i 12],.m 19 (.t 21)] [21]))) (.cond (.T 19) [3,5,8] (.g [.m 3 (.b true),
 .m 5 (.b true)] []) [] (.seq (.seq (.g [.o 23 (.bin .eql) [.t 8,.i 6],.m 22 (.t 23)] [23])
 (.cond (.t 22) [] .skip [22] (.seq (.g [.o 24 (.bin .eql) [.t 8,.i 7],.m 22 (.t 24)] [24]) (.cond (.t 22) [] .skip [22]
 (.seq (.g [.o 25 (.bin .eql) [.t 8,.i 8],.m 22 (.t 25)] [25]) (.cond (.t 22) [] .skip [22] (.g [
 .o 26 (.bin .eql) [.t 8,.i 9],.m 22 (.t 26)] [26]))))))) (.cond (.T 22) [3,4,8] (.g [.m 3 (.b true),
 .m 4 (.b true)] []) [] (.seq (.g [.o 28 (.bin .eql) [.t 8,.i 13],.m 27 (.t 28)] [28])
 (.cond (.T 27) [4,6,8] (.g [.m 4 (.b true),.m 6 (.b true)] []) [] (.seq (.g [
 .o 30 (.bin .eql) [.t 8,.i 17],.m 29 (.t 30)] [30]) (.cond (.T 29) [4,5,8] (.g [.m 4 (.b true),
 .m 5 (.b true)] []) [] (.seq (.g [.o 32 (.bin .eql) [.t 8,.i 16],.m 31 (.t 32)] [8,32])
 (.cond (.T 31) [3,4,5,6] (.seq (.g [.f 33 1 (.t 1),.l 34 0 (.t 33),.o 35 (.bin .eql) [.t 34,.i 0],
 .m 36 (.t 35),.y 37 (.fieldAddr 2) [.t 1] 36,.y 38 (.loadF 0 false 1 false) [.t 37] 36,.y 39 (.bin .eql) [.t 38,.i 0] 36,
 .o 40 .pick [.t 36,.t 39,.b false],.m 41 (.t 40),.y 42 (.fieldAddr 3) [.t 1] 41,.y 43 (.loadF 0 false 1 false) [.t 42] 41,
 .y 44 (.bin .eql) [.t 43,.i 0] 41,.o 45 .pick [.t 41,.t 44,.b false],.m 46 (.t 45),.y 47 (.fieldAddr 5) [.t 1] 46,
 .y 48 (.loadF 0 false 1 false) [.t 47] 46,.y 49 (.len .sl) [.T 48] 46,.y 50 (.bin .eql) [.t 49,.i 0] 46,
 .o 51 .pick [.t 46,.t 50,.b false],.m 2 (.t 51)] [1,33,34,35,36,37,38,39,40,41,42,43,44,45,46,47,48,49,50,51]) .ret) []
 .skip)))))))))))))))))) (.seq (.g [.m 52 (.t 3),.m 53 (.t 52),.z 54 (.fieldAddr 2) [.t 1] 53,.z 55 (.loadF 0 false 1 false) [.t 54] 53,
 .z 56 (.bin .eql) [.t 55,.i 0] 53,.o 57 .pick [.t 53,.b true,.t 56],.m 58 (.t 57),.y 59 .move [.t 4] 58,
 .y 60 .move [.t 59] 58,.z 61 (.fieldAddr 3) [.t 1] 60,.z 62 (.loadF 0 false 1 false) [.t 61] 60,.z 63 (.bin .eql) [.t 62,.i 0] 60,
 .y 64 .pick [.t 60,.b true,.t 63] 58,.o 65 .pick [.t 58,.t 64,.b false],.m 66 (.t 65),.y 67 .move [.t 5] 66,
 .y 68 .move [.t 67] 66,.z 69 (.fieldAddr 4) [.t 1] 68,.z 70 (.loadF 0 false 1 false) [.t 69] 68,.z 71 (.bin .eql) [.t 70,.i 0] 68,
 .y 72 .pick [.t 68,.b true,.t 71] 66,.o 73 .pick [.t 66,.t 72,.b false],.m 74 (.t 73),.y 75 .move [.t 6] 74,
 .y 76 .move [.t 75] 74,.z 77 (.fieldAddr 5) [.t 1] 76,.z 78 (.loadF 0 false 1 false) [.t 77] 76,.z 79 (.len .sl) [.T 78] 76,
 .z 80 (.bin .eql) [.t 79,.i 0] 76,.y 81 .pick [.t 76,.b true,.t 80] 74,.o 82 .pick [.t 74,.t 81,.b false],
 .m 2 (.t 82)] [1,3,4,5,6,52,53,54,55,56,57,58,59,60,61,62,63,64,65,66,67,68,69,70,71,72,73,74,75,76,77,78,79,80,81,82]) .ret)))) }
def s96:SFunc:={ fid:=96,mode:=.pure,nparams:=2,nboxes:=2,clr:=[],results:=[.box 4 1 3 true],body:=
 (.seq (.g [.o 2 (.boxF 0 7) [.T 0],.o 4 (.allocF 1 [.i 0,.i 0,.i 0]) []] []) (.seq (.seq (.g [.m 5 (.t 1),
 .o 6 (.bin .lss) [.t 5,.i 0],.m 7 (.t 6),.z 8 .move [.t 1] 7,.z 9 (.fieldAddr 1) [.t 2] 7,.z 10 (.loadF 0 false 1 false) [.t 9] 7,
 .z 11 (.len .sl) [.T 10] 7,.z 12 (.bin .geq) [.t 8,.t 11] 7,.o 13 .pick [.t 7,.b true,.t 12]] [5,6,7,8,9,10,11,12]) (.cond (.T 13) [1,2]
 (.seq (.g [.o 14 (.build [.i 0,.i 0,.i 0] []) [],.n (.storeF 1 3) [.t 4,.t 14]] [14]) .ret) [] .skip)) (.seq (.g [
 .f 15 1 (.t 2),.l 16 0 (.t 15),.m 17 (.t 1),.o 18 (.indexAddr 3) [.T 16,.t 17],
 .o 19 (.load true 3 false) [.T 18],.n (.storeF 1 3) [.t 4,.t 19]] [1,2,15,17,19]) .ret))) }
def s97:SFunc:={ fid:=97,mode:=.pure,nparams:=0,nboxes:=1,clr:=[],results:=[.box 0 0 3 true],body:=
 (.seq (.g [.o 0 (.allocF 0 [.i 0,.i 0,.i 0]) []] []) (.seq (.g [
 .o 1 (.build [.i 0,.i 0,.i 0] [(0,1)]) [.i 1],.n (.storeF 0 3) [.t 0,.t 1]] [1]) .ret)) }
def s98:SFunc:={ fid:=98,mode:=.pure,nparams:=0,nboxes:=1,clr:=[],results:=[.box 0 0 3 true],body:=
 (.seq (.g [.o 0 (.allocF 0 [.i 0,.i 0,.i 0]) []] []) (.seq (.g [
 .o 1 (.build [.i 0,.i 0,.i 0] [(0,1)]) [.i 2],.n (.storeF 0 3) [.t 0,.t 1]] [1]) .ret)) }
def s99:SFunc:={ fid:=99,mode:=.pure,nparams:=4,nboxes:=3,clr:=[],results:=[.tmp 8 false],body:=
 (.seq (.g [.o 5 (.boxF 0 3) [.t 1],.o 6 (.boxF 1 3) [.t 2],.o 7 (.boxF 2 3) [.t 3],.m 8 (.b false)] [1,2,3,8]) (.seq (.seq
 (.g [.m 9 (.t 0)] [0]) (.block 0 (.seq (.seq (.g [.o 11 (.bin .eql) [.t 9,.i 14],.m 10 (.t 11)] [11])
 (.cond (.t 10) [] .skip [10] (.seq (.g [.o 12 (.bin .eql) [.t 9,.i 15],.m 10 (.t 12)] [12]) (.cond (.t 10) [] .skip [10]
 (.seq (.g [.o 13 (.bin .eql) [.t 9,.i 16],.m 10 (.t 13)] [13]) (.cond (.t 10) [] .skip [10] (.seq (.g [
 .o 14 (.bin .eql) [.t 9,.i 17],.m 10 (.t 14)] [14]) (.cond (.t 10) [] .skip [10] (.g [
 .o 15 (.bin .eql) [.t 9,.i 18],.m 10 (.t 15)] [15]))))))))) (.cond (.T 10) [9] (.seq (.r [
 .o 16 (.loadF 0 true 3 false) [.t 5],.c 17 97 [],.o 18 (.eqv (.flat [.int,.int,.int]) false) [.t 16,.t 17],.m 19 (.t 18),
 .y 20 (.loadF 1 true 3 false) [.t 6] 19,.y 21 (.call 97) [] 19,.y 22 (.eqv (.flat [.int,.int,.int]) false) [.t 20,.t 21] 19,
 .o 23 .pick [.t 19,.t 22,.b false],.m 24 (.t 23),.y 25 (.loadF 2 true 3 false) [.t 7] 24,.y 26 (.call 97) [] 24,
 .y 27 (.eqv (.flat [.int,.int,.int]) false) [.t 25,.t 26] 24,.o 28 .pick [.t 24,.t 27,.b false],
 .m 8 (.t 28)] (some []) [5,6,7,16,17,18,19,20,21,22,23,24,25,26,27,28]) .ret) [] (.seq (.seq (.g [.o 30 (.bin .eql) [.t 9,.i 19],
 .m 29 (.t 30)] [30]) (.cond (.t 29) [] .skip [29] (.g [.o 31 (.bin .eql) [.t 9,.i 20],.m 29 (.t 31)] [31])))
 (.cond (.T 29) [9] (.seq (.r [.o 32 (.loadF 0 true 3 false) [.t 5],.c 33 98 [],.o 34 (.eqv (.flat [.int,.int,.int]) false) [.t 32,.t 33],
 .m 35 (.t 34),.y 36 (.loadF 1 true 3 false) [.t 6] 35,.y 37 (.call 97) [] 35,.y 38 (.eqv (.flat [.int,.int,.int]) false) [.t 36,.t 37] 35,
 .o 39 .pick [.t 35,.t 38,.b false],.m 40 (.t 39),.y 41 (.loadF 2 true 3 false) [.t 7] 40,.y 42 (.call 97) [] 40,
 .y 43 (.eqv (.flat [.int,.int,.int]) false) [.t 41,.t 42] 40,.o 44 .pick [.t 40,.t 43,.b false],
 .m 8 (.t 44)] (some []) [5,6,7,32,33,34,35,36,37,38,39,40,41,42,43,44]) .ret) [] (.seq (.seq (.g [.o 46 (.bin .eql) [.t 9,.i 21],
 .m 45 (.t 46)] [46]) (.cond (.t 45) [] .skip [45] (.g [.o 47 (.bin .eql) [.t 9,.i 22],.m 45 (.t 47)] [47])))
 (.cond (.T 45) [9] (.seq (.r [.o 48 (.loadF 0 true 3 false) [.t 5],.c 49 98 [],.o 50 (.eqv (.flat [.int,.int,.int]) false) [.t 48,.t 49],
 .m 51 (.t 50),.y 52 (.loadF 1 true 3 false) [.t 6] 51,.y 53 (.build [.i 0,.i 0,.i 0] []) [] 51,
 .y 54 (.eqv (.flat [.int,.int,.int]) true) [.t 52,.t 53] 51,.o 55 .pick [.t 51,.t 54,.b false],.m 56 (.t 55),
 .y 57 (.loadF 1 true 3 false) [.t 6] 56,.y 58 (.loadF 2 true 3 false) [.t 7] 56,.y 59 (.eqv (.flat [.int,.int,.int]) false) [.t 57,.t 58] 56,
 .o 60 .pick [.t 56,.t 59,.b false],.m 8 (.t 60)] (some []) [5,6,7,48,49,50,51,52,53,54,55,56,57,58,59,60]) .ret) [] (.seq (.seq (.g [
 .o 62 (.bin .eql) [.t 9,.i 23],.m 61 (.t 62)] [62]) (.cond (.t 61) [9] .skip [61] (.g [
 .o 63 (.bin .eql) [.t 9,.i 24],.m 61 (.t 63)] [9,63]))) (.cond (.T 61) [] (.seq (.r [.o 64 (.loadF 0 true 3 false) [.t 5],
 .c 65 98 [],.o 66 (.eqv (.flat [.int,.int,.int]) false) [.t 64,.t 65],.m 67 (.t 66),.y 68 (.loadF 1 true 3 false) [.t 6] 67,
 .y 69 (.call 98) [] 67,.y 70 (.eqv (.flat [.int,.int,.int]) false) [.t 68,.t 69] 67,.o 71 .pick [.t 67,.t 70,.b false],.m 72 (.t 71),
 .y 73 (.loadF 2 true 3 false) [.t 7] 72,.y 74 (.call 98) [] 72,.y 75 (.eqv (.flat [.int,.int,.int]) false) [.t 73,.t 74] 72,
 .o 76 .pick [.t 72,.t 75,.b false],.m 8 (.t 76)] (some []) [5,6,7,64,65,66,67,68,69,70,71,72,73,74,75,76]) .ret) [5,6,7] .skip))))))))))
 (.seq (.g [.m 8 (.b false)] []) .ret))) }
def s100:SFunc:={ fid:=100,mode:=.pure,nparams:=3,nboxes:=3,clr:=[],results:=[.box 6 2 3 true],body:=
 (.seq (.g [.o 3 (.boxF 0 5) [.T 0],.o 4 (.boxF 1 3) [.t 1],.o 6 (.allocF 2 [.i 0,.i 0,.i 0]) []] [1]) (.seq (.seq (.g [
 .f 7 0 (.t 4),.l 8 1 (.t 7),.o 9 (.bin .neq) [.t 8,.i 3],.m 10 (.t 9),
 .z 11 (.fieldAddr 2) [.t 4] 10,.z 12 (.loadF 1 false 1 false) [.t 11] 10,.z 13 (.bin .neq) [.t 12,.i 0] 10,
 .o 14 .pick [.t 10,.b true,.t 13],.m 15 (.t 14),.z 16 (.fieldAddr 1) [.t 4] 15,.z 17 (.loadF 1 false 1 false) [.t 16] 15,
 .z 18 (.bin .lss) [.t 17,.i 0] 15,.o 19 .pick [.t 15,.b true,.t 18],.m 20 (.t 19),.z 21 (.fieldAddr 1) [.t 4] 20,
 .z 22 (.loadF 1 false 1 false) [.t 21] 20,.z 23 (.fieldAddr 0) [.t 3] 20,.z 24 (.loadF 0 false 1 false) [.t 23] 20,.z 25 (.len .sl) [.T 24] 20,
 .z 26 (.bin .geq) [.t 22,.t 25] 20,.o 27 .pick [.t 20,.b true,.t 26],.m 28 (.t 27),.z 29 .move [.t 2] 28,
 .z 30 (.bin .lss) [.t 29,.i 0] 28,.o 31 .pick [.t 28,.b true,.t 30],.m 32 (.t 31),.z 33 .move [.t 2] 32,
 .z 34 (.fieldAddr 0) [.t 3] 32,.z 35 (.loadF 0 false 1 false) [.t 34] 32,.z 36 (.fieldAddr 1) [.t 4] 32,.z 37 (.loadF 1 false 1 false) [.t 36] 32,
 .z 38 (.indexAddr 2) [.T 35,.t 37] 32,.z 39 (.fieldAddr 1) [.T 38] 32,.z 40 (.load false 1 false) [.T 39] 32,.z 41 (.len .sl) [.T 40] 32,
 .z 42 (.bin .geq) [.t 33,.t 41] 32,
 .o 43 .pick [.t 32,.b true,.t 42]] [7,8,9,10,11,12,13,14,15,16,17,18,19,20,21,22,23,24,25,26,27,28,29,30,31,32,33,34,35,36,37,38,39,40,41,42])
 (.cond (.T 43) [2,3,4] (.seq (.g [.o 44 (.build [.i 0,.i 0,.i 0] []) [],.n (.storeF 2 3) [.t 6,.t 44]] [44]) .ret) [] .skip))
 (.seq (.g [.f 45 0 (.t 3),.l 46 0 (.t 45),.f 47 1 (.t 4),.l 48 1 (.t 47),
 .o 49 (.indexAddr 2) [.T 46,.t 48],.f 50 1 (.T 49),.d 51 (.T 50),.m 52 (.t 2),.o 53 (.indexAddr 4) [.T 51,.t 52],
 .f 54 1 (.T 53),.o 55 (.load true 3 false) [.T 54],.n (.storeF 2 3) [.t 6,.t 55]] [2,3,4,45,47,48,52,55]) .ret))) }
def s101:SFunc:={ fid:=101,mode:=.pure,nparams:=1,nboxes:=2,clr:=[],results:=[.box 2 1 3 true],body:=
 (.seq (.g [.o 1 (.boxF 0 3) [.t 0],.o 2 (.allocF 1 [.i 0,.i 0,.i 0]) []] [0]) (.seq (.g [.f 3 0 (.t 1),
 .l 4 0 (.t 3),.f 5 1 (.t 1),.l 6 0 (.t 5),.f 7 2 (.t 1),
 .l 8 0 (.t 7),.o 9 (.bin .sub) [.t 8,.i 1],
 .o 10 (.build [.i 0,.i 0,.i 0] [(0,1),(1,1),(2,1)]) [.t 4,.t 6,.t 9],.n (.storeF 1 3) [.t 2,.t 10]] [1,3,4,5,6,7,8,9,10]) .ret)) }
def s102:SFunc:={ fid:=102,mode:=.pure,nparams:=4,nboxes:=2,clr:=[],results:=[.tmp 8 false],body:=
 (.seq (.g [.o 4 (.boxF 0 5) [.T 0],.o 7 (.boxF 1 3) [.t 3],.m 8 (.b false)] [3,8]) (.seq (.r [.m 9 (.t 2),
 .o 10 (.bin .geq) [.t 9,.i 0],.m 11 (.t 10),.y 12 .move [.t 2] 11,.y 13 (.fieldAddr 3) [.t 4] 11,
 .y 14 (.loadF 0 false 1 false) [.t 13] 11,.y 15 (.len .sl) [.T 14] 11,.y 16 (.bin .lss) [.t 12,.t 15] 11,.o 17 .pick [.t 11,.t 16,.b false],
 .m 18 (.t 17),.y 19 (.fieldAddr 3) [.t 4] 18,.y 20 (.loadF 0 false 1 false) [.t 19] 18,.y 21 .move [.t 2] 18,.y 22 (.indexAddr 4) [.T 20,.t 21] 18,
 .y 23 (.fieldAddr 0) [.T 22] 18,.y 24 (.load false 1 false) [.T 23] 18,.y 25 .move [.t 1] 18,.y 26 (.bin .eql) [.t 24,.t 25] 18,
 .o 27 .pick [.t 18,.t 26,.b false],.m 28 (.t 27),.y 29 (.fieldAddr 3) [.t 4] 28,.y 30 (.loadF 0 false 1 false) [.t 29] 28,
 .y 31 .move [.t 2] 28,.y 32 (.indexAddr 4) [.T 30,.t 31] 28,.y 33 (.fieldAddr 1) [.T 32] 28,.y 34 (.load true 3 false) [.T 33] 28,
 .y 35 (.loadF 1 true 3 false) [.t 7] 28,.y 36 (.eqv (.flat [.int,.int,.int]) false) [.t 34,.t 35] 28,.o 37 .pick [.t 28,.t 36,.b false],
 .m 8 (.t 37)] (some []) [1,2,4,7,9,10,11,12,13,14,15,16,17,18,19,20,21,22,23,24,25,26,27,28,29,30,31,32,33,34,35,36,37]) .ret)) }
def s103_l0:SCode:=
 (.seq (.seq (.g [.m 47 (.t 8),.f 48 5 (.t 5),.l 49 2 (.t 48),.o 50 (.len .sl) [.T 49],
 .o 51 (.bin .lss) [.t 47,.t 50]] [47,48,50]) (.cond (.T 51) [] .skip [8] (.exit 0))) (.seq (.block 1 (.seq (.r [
 .o 54 (.loadF 1 true 7 false) [.t 4],.f 55 5 (.t 5),.l 56 2 (.t 55),.m 57 (.t 8),
 .o 58 (.indexAddr 1) [.T 56,.t 57],.d 59 (.T 58),.c 60 96 [.T 54,.t 59],
 .o 9 (.allocF 4 [.i 0,.i 0,.i 0]) [],.n (.storeF 4 3) [.t 9,.t 60]] (some []) [55,57,59,60]) (.seq (.r [
 .o 61 (.loadF 4 true 3 false) [.t 9],.o 62 (.build [.i 0,.i 0,.i 0] []) [],.o 63 (.eqv (.flat [.int,.int,.int]) false) [.t 61,.t 62],
 .m 64 (.t 63),.z 65 (.loadF 4 true 3 false) [.t 9] 64,.z 66 (.fieldAddr 1) [.t 7] 64,.z 67 (.loadF 3 false 1 false) [.t 66] 64,
 .z 68 .move [.t 8] 64,.z 69 (.indexAddr 3) [.T 67,.t 68] 64,.z 70 (.load true 3 false) [.T 69] 64,
 .z 71 (.eqv (.flat [.int,.int,.int]) true) [.t 65,.t 70] 64,.o 72 .pick [.t 64,.b true,.t 71]] (some []) [9,61,62,63,64,65,66,67,68,69,70,71])
 (.cond (.T 72) [4,5,7,8] (.seq (.g [.m 6 (.b false)] []) .ret) [] .skip)))) (.g [.m 52 (.t 8),
 .o 53 (.bin .add) [.t 52,.i 1],.m 8 (.t 53)] [52,53])))
def s103:SFunc:={ fid:=103,mode:=.pure,nparams:=3,nboxes:=6,clr:=[],results:=[.tmp 6 false],body:=
 (.seq (.g [.o 3 (.boxF 0 5) [.T 0],.o 4 (.boxF 1 7) [.T 1],.o 5 (.boxF 2 6) [.T 2],.m 6 (.b false)] [6]) (.seq (.seq
 (.g [.f 11 3 (.t 5),.l 12 2 (.t 11),.o 13 (.bin .lss) [.t 12,.i 0],.m 14 (.t 13),
 .z 15 (.fieldAddr 3) [.t 5] 14,.z 16 (.loadF 2 false 1 false) [.t 15] 14,.z 17 (.fieldAddr 2) [.t 3] 14,.z 18 (.loadF 0 false 1 false) [.t 17] 14,
 .z 19 (.len .sl) [.T 18] 14,.z 20 (.bin .geq) [.t 16,.t 19] 14,.o 21 .pick [.t 14,.b true,.t 20]] [11,12,13,14,15,16,17,18,19,20])
 (.cond (.T 21) [3,4,5] (.seq (.g [.m 6 (.b false)] []) .ret) [] .skip)) (.seq (.g [.f 22 2 (.t 3),
 .l 23 0 (.t 22),.f 24 3 (.t 5),.l 25 2 (.t 24),.o 26 (.indexAddr 7) [.T 23,.t 25],
 .o 27 (.load true 7 false) [.T 26],.o 7 (.allocF 3 [.i 0,.nilSl,.bool false,.i 0,.i 0,.i 0,.nilSl]) [],
 .n (.storeF 3 7) [.t 7,.T 27]] [3,22,24,25]) (.seq (.seq (.g [.f 28 0 (.t 7),.l 29 3 (.t 28),
 .o 30 (.bin .lss) [.t 29,.i 0],.m 31 (.t 30),.z 32 (.fieldAddr 0) [.t 7] 31,.z 33 (.loadF 3 false 1 false) [.t 32] 31,
 .z 34 (.fieldAddr 1) [.t 7] 31,.z 35 (.loadF 3 false 1 false) [.t 34] 31,.z 36 (.len .sl) [.T 35] 31,.z 37 (.bin .gtr) [.t 33,.t 36] 31,
 .o 38 .pick [.t 31,.b true,.t 37],.m 39 (.t 38),.z 40 (.fieldAddr 5) [.t 5] 39,.z 41 (.loadF 2 false 1 false) [.t 40] 39,
 .z 42 (.len .sl) [.T 41] 39,.z 43 (.fieldAddr 0) [.t 7] 39,.z 44 (.loadF 3 false 1 false) [.t 43] 39,.z 45 (.bin .neq) [.t 42,.t 44] 39,
 .o 46 .pick [.t 39,.b true,.t 45]] [28,29,30,31,32,33,34,35,36,37,38,39,40,41,42,43,44,45]) (.cond (.T 46) [4,5,7] (.seq (.g [
 .m 6 (.b false)] []) .ret) [] .skip)) (.seq (.seq (.g [.m 8 (.i 0)] []) (.block 0 (.loop s103_l0)))
 (.seq (.seq (.g [.f 73 1 (.t 5),.l 74 2 (.t 73),.o 75 (.bin .eql) [.t 74,.const (.i (-1))]] [73,74])
 (.cond (.T 75) [4,5,7] (.seq (.g [.m 6 (.b true)] []) .ret) [] .skip)) (.seq (.g [.o 76 (.loadF 1 true 7 false) [.t 4],
 .f 77 1 (.t 5),.l 78 2 (.t 77),.c 79 96 [.T 76,.t 78],
 .o 10 (.allocF 5 [.i 0,.i 0,.i 0]) [],.n (.storeF 5 3) [.t 10,.t 79]] [4,5,77,78,79]) (.seq (.g [.f 80 2 (.t 7),
 .l 81 3 (.t 80),.m 82 (.t 81),.y 83 (.loadF 5 true 3 false) [.t 10] 82,
 .y 84 (.build [.i 0,.i 0,.i 0] []) [] 82,.y 85 (.eqv (.flat [.int,.int,.int]) true) [.t 83,.t 84] 82,
 .o 86 .pick [.t 82,.t 85,.b false],.m 87 (.t 86),.y 88 (.loadF 5 true 3 false) [.t 10] 87,.y 89 (.fieldAddr 3) [.t 7] 87,
 .y 90 (.loadF 3 true 3 false) [.t 89] 87,.y 91 (.eqv (.flat [.int,.int,.int]) false) [.t 88,.t 90] 87,.o 92 .pick [.t 87,.t 91,.b false],
 .m 6 (.t 92)] [7,10,80,81,82,83,84,85,86,87,88,89,90,91,92]) .ret)))))))) }
def s104:SFunc:={ fid:=104,mode:=.pure,nparams:=2,nboxes:=2,clr:=[],results:=[.tmp 4 false],body:=
 (.seq (.g [.o 2 (.boxF 0 5) [.T 0],.o 3 (.boxF 1 3) [.t 1],.m 4 (.b false)] [1,4]) (.seq (.seq (.g [
 .f 5 2 (.t 3),.l 6 1 (.t 5),.o 7 (.bin .lss) [.t 6,.i 0],.m 8 (.t 7),
 .z 9 (.fieldAddr 2) [.t 3] 8,.z 10 (.loadF 1 false 1 false) [.t 9] 8,.z 11 (.bin .gtr) [.t 10,.i 3] 8,
 .o 12 .pick [.t 8,.b true,.t 11]] [5,6,7,8,9,10,11]) (.cond (.T 12) [2,3] (.seq (.g [.m 4 (.b false)] [])
 .ret) [] .skip)) (.seq (.seq (.g [.f 13 0 (.t 3),.l 14 1 (.t 13)] [13]) (.block 0 (.seq (.seq (.g [
 .o 16 (.bin .eql) [.t 14,.i 1],.m 15 (.t 16)] [16]) (.cond (.t 15) [14] .skip [15] (.g [
 .o 17 (.bin .eql) [.t 14,.i 2],.m 15 (.t 17)] [14,17]))) (.cond (.T 15) [2] (.seq (.g [.f 18 1 (.t 3),
 .l 19 1 (.t 18),.o 20 (.bin .eql) [.t 19,.i 0],.m 4 (.t 20)] [3,18,19,20]) .ret) [] .skip)))) (.seq
 (.g [.f 21 0 (.t 3),.l 22 1 (.t 21),.o 23 (.bin .eql) [.t 22,.i 3],.m 24 (.t 23),
 .y 25 (.fieldAddr 1) [.t 3] 24,.y 26 (.loadF 1 false 1 false) [.t 25] 24,.y 27 (.bin .geq) [.t 26,.i 0] 24,
 .o 28 .pick [.t 24,.t 27,.b false],.m 29 (.t 28),.y 30 (.fieldAddr 1) [.t 3] 29,.y 31 (.loadF 1 false 1 false) [.t 30] 29,
 .y 32 (.fieldAddr 0) [.t 2] 29,.y 33 (.loadF 0 false 1 false) [.t 32] 29,.y 34 (.len .sl) [.T 33] 29,.y 35 (.bin .lss) [.t 31,.t 34] 29,
 .o 36 .pick [.t 29,.t 35,.b false],.m 4 (.t 36)] [2,3,21,22,23,24,25,26,27,28,29,30,31,32,33,34,35,36]) .ret)))) }
def s105:SFunc:={ fid:=105,mode:=.pure,nparams:=1,nboxes:=1,clr:=[],results:=[.tmp 2 false],body:=
 (.seq (.g [.o 1 (.boxF 0 3) [.t 0],.m 2 (.b false)] [0,2]) (.seq (.g [.f 3 0 (.t 1),
 .l 4 0 (.t 3),.o 5 (.bin .eql) [.t 4,.i 3],.m 6 (.t 5),.z 7 (.fieldAddr 2) [.t 1] 6,
 .z 8 (.loadF 0 false 1 false) [.t 7] 6,.z 9 (.bin .gtr) [.t 8,.i 0] 6,.o 10 .pick [.t 6,.b true,.t 9],
 .m 2 (.t 10)] [1,3,4,5,6,7,8,9,10]) .ret)) }
def s106_l0:SCode:=
 (.seq (.g [.o 73 (.bin .lss) [.t 72,.t 71]] []) (.seq (.cond (.T 73) [] .skip [1,2,70,71,72] (.exit 0)) (.seq (.block 1 (.seq (.g [
 .o 74 (.indexAddr 6) [.t 70,.t 72],.o 75 (.load true 6 false) [.T 74],
 .o 7 (.allocF 2 [.i 0,.i 0,.i 0,.i 0,.i 0,.nilSl]) [],.n (.storeF 2 6) [.t 7,.T 75]] []) (.seq (.g [
 .o 76 (.loadF 0 true 5 false) [.t 2],.m 77 (.t 1),.o 78 (.loadF 2 true 6 false) [.t 7],.c 79 141 [.T 76,.t 77,.T 78],
 .o 80 (.un .not) [.t 79]] [7,77,79]) (.cond (.T 80) [1,2,5,70,71,72] (.seq (.g [.m 4 (.b false)] []) .ret) [] .skip))))
 (.g [.o 81 (.bin .add) [.t 72,.i 1],.m 72 (.t 81)] [81]))))
def s106:SFunc:={ fid:=106,mode:=.pure,nparams:=2,nboxes:=3,clr:=[],results:=[.tmp 4 false],body:=
 (.seq (.g [.o 2 (.boxF 0 5) [.T 0],.m 4 (.b false)] [4]) (.seq (.g [.f 9 2 (.t 2),
 .l 10 0 (.t 9),.m 11 (.t 1),.o 12 (.indexAddr 7) [.T 10,.t 11],.o 13 (.load true 7 false) [.T 12],
 .o 5 (.allocF 1 [.i 0,.nilSl,.bool false,.i 0,.i 0,.i 0,.nilSl]) [],.n (.storeF 1 7) [.t 5,.T 13]] [9,11]) (.seq (.seq
 (.g [.f 14 0 (.t 5),.l 15 1 (.t 14),.o 16 (.bin .lss) [.t 15,.i 0],.m 17 (.t 16),
 .z 18 (.fieldAddr 0) [.t 5] 17,.z 19 (.loadF 1 false 1 false) [.t 18] 17,.z 20 (.bin .gtr) [.t 19,.i 6] 17,
 .o 21 .pick [.t 17,.b true,.t 20],.m 22 (.t 21),.z 23 (.fieldAddr 0) [.t 5] 22,.z 24 (.loadF 1 false 1 false) [.t 23] 22,
 .z 25 (.fieldAddr 1) [.t 5] 22,.z 26 (.loadF 1 false 1 false) [.t 25] 22,.z 27 (.len .sl) [.T 26] 22,.z 28 (.bin .gtr) [.t 24,.t 27] 22,
 .o 29 .pick [.t 22,.b true,.t 28],.m 30 (.t 29),.z 31 (.fieldAddr 1) [.t 5] 30,.z 32 (.loadF 1 false 1 false) [.t 31] 30,
 .z 33 (.len .sl) [.T 32] 30,.z 34 (.bin .gtr) [.t 33,.i 4000] 30,.o 35 .pick [.t 30,.b true,.t 34],.m 36 (.t 35),
 .z 37 (.fieldAddr 6) [.t 5] 36,.z 38 (.loadF 1 false 1 false) [.t 37] 36,.z 39 (.len .sl) [.T 38] 36,.z 40 (.bin .eql) [.t 39,.i 0] 36,
 .o 41 .pick [.t 36,.b true,.t 40],.m 42 (.t 41),.z 43 (.loadF 0 true 5 false) [.t 2] 42,.z 44 (.fieldAddr 1) [.t 5] 42,
 .z 45 (.loadF 1 false 1 false) [.t 44] 42,.z 46 (.call 47) [.T 43,.T 45] 42,.z 47 (.un .not) [.t 46] 42,
 .o 48 .pick [.t 42,.b true,.t 47]] [14,15,16,17,18,19,20,21,22,23,24,25,26,27,28,29,30,31,32,33,34,35,36,37,38,39,40,41,42,43,44,45,46,47])
 (.cond (.T 48) [1,2,5] (.seq (.g [.m 4 (.b false)] []) .ret) [] .skip)) (.seq (.seq (.r [.f 49 2 (.t 5),
 .l 50 1 (.t 49),.m 51 (.t 50),.y 52 (.loadF 0 true 5 false) [.t 2] 51,.y 53 (.fieldAddr 3) [.t 5] 51,
 .y 54 (.loadF 1 true 3 false) [.t 53] 51,.y 55 (.call 104) [.T 52,.t 54] 51,.y 56 (.un .not) [.t 55] 51,.o 57 .pick [.t 51,.t 56,.b false],
 .m 58 (.t 57),.z 59 (.fieldAddr 2) [.t 5] 58,.z 60 (.loadF 1 false 1 false) [.t 59] 58,.z 61 (.un .not) [.t 60] 58,.z 62 .move [.t 61] 58,
 .y 63 (.fieldAddr 3) [.t 5] 62,.y 64 (.loadF 1 true 3 false) [.t 63] 62,.y 65 (.call 140) [] 62,
 .y 66 (.eqv (.flat [.int,.int,.int]) true) [.t 64,.t 65] 62,.z 67 .pick [.t 62,.t 66,.b false] 58,
 .o 68 .pick [.t 58,.b true,.t 67]] (some []) [49,50,51,52,53,54,55,56,57,58,59,60,61,62,63,64,65,66,67]) (.cond (.T 68) [1,2,5] (.seq (.g [
 .m 4 (.b false)] []) .ret) [] .skip)) (.seq (.seq (.g [.f 69 6 (.t 5),.l 70 1 (.t 69),
 .o 71 (.len .sl) [.t 70],.m 72 (.i 0)] [69]) (.block 0 (.loop s106_l0))) (.seq (.g [.f 82 6 (.t 5),
 .l 83 1 (.t 82),.f 84 6 (.t 5),.l 85 1 (.t 84),.o 86 (.len .sl) [.T 85],
 .o 87 (.bin .sub) [.t 86,.i 1],.o 88 (.indexAddr 6) [.T 83,.t 87],.f 89 0 (.T 88),.d 90 (.T 89),
 .m 8 (.t 90)] [5,82,84,86,87,90]) (.seq (.g [.m 91 (.t 8),.o 92 (.bin .eql) [.t 91,.i 16],.m 93 (.t 92),
 .z 94 .move [.t 8] 93,.z 95 (.bin .eql) [.t 94,.i 17] 93,.o 96 .pick [.t 93,.b true,.t 95],.m 97 (.t 96),
 .z 98 .move [.t 8] 97,.z 99 (.bin .eql) [.t 98,.i 18] 97,.o 100 .pick [.t 97,.b true,.t 99],
 .m 4 (.t 100)] [8,91,92,93,94,95,96,97,98,99,100]) .ret))))))) }
def s107:SFunc:={ fid:=107,mode:=.scp,nparams:=3,nboxes:=0,clr:=[],results:=[],body:=
 (.g [.m 6 (.t 0),.c 7 22 [.t 6],.o 8 .nilCheck [.t 7],.f 9 2 (.T 8),.d 10 (.T 9),
 .m 11 (.t 1),.m 12 (.t 2),.o 13 (.indexAddr 1) [.T 10,.t 11],.n (.store 1) [.T 13,.t 12]] [0,1,2,6,7,11,12]) }
def s108:SFunc:={ fid:=108,mode:=.scp,nparams:=2,nboxes:=0,clr:=[],results:=[.tmp 4 false],body:=
 (.seq (.g [.m 4 (.i 0)] [4]) (.seq (.g [.m 5 (.t 0),.c 6 22 [.t 5],.o 7 .nilCheck [.t 6],
 .f 8 2 (.T 7),.d 9 (.T 8),.m 10 (.t 1),.o 11 (.indexAddr 1) [.T 9,.t 10],.d 12 (.T 11),
 .m 4 (.t 12)] [0,1,5,6,10,12]) .ret)) }
def s109:SFunc:={ fid:=109,mode:=.opn,nparams:=2,nboxes:=0,clr:=[],results:=[.tmp 4 false],body:=
 (.seq (.g [.o 2 (.box 1) [.t 0],.o 3 (.box 1) [.t 1],.o 4 .move [.const .nilFn]] [0,1,4]) (.seq (.g [.o 5 (.makeFunc 142 0) [.T 2,.T 3],
 .m 4 (.t 5)] [5]) .ret)) }
def s110:SFunc:={ fid:=110,mode:=.pure,nparams:=3,nboxes:=0,clr:=[],results:=[.tmp 6 false,.tmp 7 false],body:=
 (.seq (.g [.m 6 (.i 0),.m 7 (.i 0)] [6,7]) (.seq (.seq (.g [.m 8 (.t 0)] [])
 (.block 0 (.seq (.g [.o 10 (.bin .eql) [.t 8,.i 14],.m 9 (.t 10)] [10]) (.cond (.T 9) [0,8] (.seq (.g [
 .m 11 (.t 1),.m 12 (.t 2),.o 13 (.bin .add) [.t 11,.t 12],.m 6 (.t 13),.m 7 (.i 0)] [1,2,11,12,13]) .ret) []
 (.seq (.g [.o 15 (.bin .eql) [.t 8,.i 15],.m 14 (.t 15)] [15]) (.cond (.T 14) [0,8] (.seq (.g [.m 16 (.t 1),
 .m 17 (.t 2),.o 18 (.bin .sub) [.t 16,.t 17],.m 6 (.t 18),.m 7 (.i 0)] [1,2,16,17,18]) .ret) [] (.seq (.g [
 .o 20 (.bin .eql) [.t 8,.i 16],.m 19 (.t 20)] [20]) (.cond (.T 19) [0,8] (.seq (.g [.m 21 (.t 1),.m 22 (.t 2),
 .o 23 (.bin .mul) [.t 21,.t 22],.m 6 (.t 23),.m 7 (.i 0)] [1,2,21,22,23]) .ret) [] (.seq (.seq (.g [
 .o 25 (.bin .eql) [.t 8,.i 17],.m 24 (.t 25)] [25]) (.cond (.t 24) [] .skip [24] (.g [
 .o 26 (.bin .eql) [.t 8,.i 18],.m 24 (.t 26)] [26]))) (.cond (.T 24) [8] (.seq (.seq (.g [.m 27 (.t 2),
 .o 28 (.bin .eql) [.t 27,.i 0]] [27]) (.cond (.T 28) [0,1,2] (.seq (.g [.m 6 (.i 0),
 .m 7 (.i 3)] []) .ret) [] .skip)) (.seq (.seq (.g [.m 29 (.t 0),
 .o 30 (.bin .eql) [.t 29,.i 17]] [0,29]) (.cond (.T 30) [] (.seq (.g [.m 31 (.t 1),.m 32 (.t 2),
 .o 33 (.bin .quo) [.t 31,.t 32],.m 6 (.t 33),.m 7 (.i 0)] [1,2,31,32,33]) .ret) [] .skip)) (.seq (.g [
 .m 34 (.t 1),.m 35 (.t 2),.o 36 (.bin .rem) [.t 34,.t 35],.m 6 (.t 36),.m 7 (.i 0)] [1,2,34,35,36])
 .ret))) [0] (.seq (.g [.o 38 (.bin .eql) [.t 8,.i 19],.m 37 (.t 38)] [38]) (.cond (.T 37) [8] (.seq (.g [
 .m 39 (.t 1),.m 40 (.t 2),.o 41 (.bin .lss) [.t 39,.t 40],.c 42 143 [.t 41],.m 6 (.t 42),
 .m 7 (.i 0)] [1,2,39,40,41,42]) .ret) [] (.seq (.g [.o 44 (.bin .eql) [.t 8,.i 20],
 .m 43 (.t 44)] [44]) (.cond (.T 43) [8] (.seq (.g [.m 45 (.t 1),.m 46 (.t 2),.o 47 (.bin .leq) [.t 45,.t 46],
 .c 48 143 [.t 47],.m 6 (.t 48),.m 7 (.i 0)] [1,2,45,46,47,48]) .ret) [] (.seq (.g [
 .o 50 (.bin .eql) [.t 8,.i 21],.m 49 (.t 50)] [50]) (.cond (.T 49) [8] (.seq (.g [.m 51 (.t 1),.m 52 (.t 2),
 .o 53 (.bin .eql) [.t 51,.t 52],.c 54 143 [.t 53],.m 6 (.t 54),.m 7 (.i 0)] [1,2,51,52,53,54]) .ret) [] (.seq
 (.g [.o 56 (.bin .eql) [.t 8,.i 22],.m 55 (.t 56)] [56]) (.cond (.T 55) [8] (.seq (.g [.m 57 (.t 1),
 .m 58 (.t 2),.o 59 (.bin .neq) [.t 57,.t 58],.c 60 143 [.t 59],.m 6 (.t 60),.m 7 (.i 0)] [1,2,57,58,59,60])
 .ret) [] (.seq (.g [.o 62 (.bin .eql) [.t 8,.i 23],.m 61 (.t 62)] [62]) (.cond (.T 61) [8] (.seq (.g [
 .m 63 (.t 1),.o 64 (.bin .neq) [.t 63,.i 0],.m 65 (.t 64),.y 66 .move [.t 2] 65,
 .y 67 (.bin .neq) [.t 66,.i 0] 65,.o 68 .pick [.t 65,.t 67,.b false],.c 69 143 [.t 68],.m 6 (.t 69),
 .m 7 (.i 0)] [1,2,63,64,65,66,67,68,69]) .ret) [] (.seq (.g [.o 71 (.bin .eql) [.t 8,.i 24],
 .m 70 (.t 71)] [8,71]) (.cond (.T 70) [] (.seq (.g [.m 72 (.t 1),.o 73 (.bin .neq) [.t 72,.i 0],.m 74 (.t 73),
 .z 75 .move [.t 2] 74,.z 76 (.bin .neq) [.t 75,.i 0] 74,.o 77 .pick [.t 74,.b true,.t 76],.c 78 143 [.t 77],
 .m 6 (.t 78),.m 7 (.i 0)] [1,2,72,73,74,75,76,77,78]) .ret) [1,2] .skip)))))))))))))))))))))) (.seq (.g [
 .m 6 (.i 0),.m 7 (.i 0)] []) .ret))) }
def s111:SFunc:={ fid:=111,mode:=.pure,nparams:=2,nboxes:=0,clr:=[],results:=[.tmp 4 false],body:=
 (.seq (.g [.m 4 (.i 0)] [4]) (.seq (.seq (.g [.m 5 (.t 0)] [0]) (.block 0 (.seq (.g [
 .o 7 (.bin .eql) [.t 5,.i 12],.m 6 (.t 7)] [7]) (.cond (.T 6) [5] (.seq (.g [.m 8 (.t 1),.o 9 (.un .neg) [.t 8],
 .m 4 (.t 9)] [1,8,9]) .ret) [] (.seq (.g [.o 11 (.bin .eql) [.t 5,.i 13],.m 10 (.t 11)] [5,11]) (.cond (.T 10) []
 (.seq (.g [.m 12 (.t 1),.o 13 (.bin .eql) [.t 12,.i 0],.c 14 143 [.t 13],.m 4 (.t 14)] [1,12,13,14])
 .ret) [1] .skip)))))) (.seq (.g [.m 4 (.i 0)] []) .ret))) }
def s112:SFunc:={ fid:=112,mode:=.scp,nparams:=3,nboxes:=0,clr:=[],results:=[.tmp 6 false,.tmp 7 false],body:=
 (.seq (.g [.m 6 (.i 0),.m 7 (.i 0)] [6,7]) (.seq (.g [.m 11 (.t 0),.m 12 (.t 1),
 .m 13 (.t 2),.c 14 144 [.t 11,.t 12,.t 13],.m 10 (.T 14),.o 15 (.extract 0) [.t 10],.o 16 (.extract 1) [.T 10],.m 8 (.t 15),
 .m 9 (.t 16)] [0,1,2,11,12,13,15,16]) (.seq (.seq (.g [.m 17 (.t 9),.o 18 (.bin .neq) [.t 17,.i 0]] [17])
 (.cond (.T 18) [8] (.seq (.g [.m 19 (.t 9),.m 6 (.i 0),.m 7 (.t 19)] [9,19]) .ret) [9] .skip)) (.seq (.g [
 .m 20 (.t 8),.o 21 .nilCheck [.t 20],.d 22 (.T 21),.m 6 (.t 22),.m 7 (.i 0)] [8,20,22])
 .ret)))) }
def s113:SFunc:={ fid:=113,mode:=.scp,nparams:=2,nboxes:=0,clr:=[],results:=[.tmp 4 false],body:=
 (.seq (.g [.m 4 (.b false)] [4]) (.seq (.seq (.g [.m 5 (.t 1),
 .o 6 (.bin .neq) [.t 5,.i 0]] [5]) (.cond (.T 6) [] (.g [.m 7 (.t 0),.m 8 (.t 0),.m 9 (.t 1),
 .o 10 .nilCheck [.t 7],.f 11 11 (.T 10),.f 12 0 (.T 11),.n (.store 1) [.T 12,.i 2],.o 13 .nilCheck [.t 8],
 .f 14 11 (.T 13),.f 15 1 (.T 14),.n (.store 1) [.T 15,.t 9]] [0,7,8,9]) [0] .skip)) (.seq (.g [.m 16 (.t 1),
 .o 17 (.bin .neq) [.t 16,.i 0],.m 4 (.t 17)] [1,16,17]) .ret))) }
def s114:SFunc:={ fid:=114,mode:=.scp,nparams:=4,nboxes:=0,clr:=[],results:=[.tmp 8 false],body:=
 (.seq (.g [.m 8 (.i 0)] [8]) (.seq (.g [.m 12 (.t 0),.m 13 (.t 1),.m 14 (.t 2),
 .c 15 144 [.t 12,.t 13,.t 14],.m 11 (.T 15),.o 16 (.extract 0) [.t 11],.o 17 (.extract 1) [.T 11],.m 9 (.t 16),
 .m 10 (.t 17)] [0,1,2,12,13,14,16,17]) (.seq (.seq (.g [.m 18 (.t 10),.o 19 (.bin .eql) [.t 18,.i 0]] [18])
 (.cond (.T 19) [] (.g [.m 20 (.t 9),.m 21 (.t 3),.o 22 .nilCheck [.t 20],.n (.store 1) [.T 22,.t 21]] [3,9,20,21]) [3,9] .skip))
 (.seq (.g [.m 23 (.t 10),.m 8 (.t 23)] [10,23]) .ret)))) }
def s115:SFunc:={ fid:=115,mode:=.scp,nparams:=2,nboxes:=0,clr:=[],results:=[.tmp 4 false,.tmp 5 false],body:=
 (.seq (.g [.m 4 (.i 0),.m 5 (.i 0)] [4,5]) (.seq (.g [.m 9 (.t 0),.m 10 (.t 1),
 .c 11 145 [.t 9,.t 10],.m 8 (.T 11),.o 12 (.extract 0) [.t 8],.o 13 (.extract 1) [.T 8],.m 6 (.T 12),
 .m 7 (.t 13)] [0,1,9,10,13]) (.seq (.seq (.g [.m 14 (.t 7),.o 15 (.un .not) [.t 14]] [7,14]) (.cond (.T 15) [6] (.seq (.g [
 .m 4 (.i 0),.m 5 (.i 1)] []) .ret) [] .skip)) (.seq (.g [.m 16 (.T 6),.o 17 (.len .sl) [.T 16],
 .m 4 (.t 17),.m 5 (.i 0)] [17]) .ret)))) }
def s116:SFunc:={ fid:=116,mode:=.opn,nparams:=2,nboxes:=0,clr:=[],results:=[.tmp 4 false],body:=
 (.seq (.g [.m 4 (.i 0)] [4]) (.seq (.seq (.g [.m 5 (.t 0),
 .o 6 (.eqv .ptr false) [.t 5,.const .nilPtr]] [5]) (.cond (.T 6) [0,1] (.seq (.g [.m 4 (.i 0)] []) .ret) [] .skip))
 (.seq (.g [.m 7 (.t 0),.m 8 (.t 1),.o 9 (.minmax true) [.t 8,.i 0],.o 10 (.minmax false) [.t 9,.i 8],
 .c 11 146 [.t 7,.t 10],.m 4 (.t 11)] [0,1,7,8,9,10,11]) .ret))) }
def s117:SFunc:={ fid:=117,mode:=.opn,nparams:=2,nboxes:=0,clr:=[],results:=[.tmp 4 false,.tmp 5 false],body:=
 (.seq (.g [.m 4 (.i 0),.m 5 (.i 0)] [4,5]) (.seq (.block 0 (.seq (.g [.m 7 (.t 0),
 .o 8 (.eqv .ptr false) [.t 7,.const .nilPtr],.m 6 (.t 8)] [7,8]) (.cond (.T 6) [0,1] (.seq (.g [.m 4 (.i 0),
 .m 5 (.i 1)] []) .ret) [] (.seq (.g [.m 10 (.t 1),.o 11 (.bin .lss) [.t 10,.i 0],.m 12 (.t 11),
 .z 13 .move [.t 1] 12,.z 14 (.bin .gtr) [.t 13,.i 50] 12,.o 15 .pick [.t 12,.b true,.t 14],
 .m 9 (.t 15)] [10,11,12,13,14,15]) (.cond (.T 9) [0,1] (.seq (.g [.m 4 (.i 0),
 .m 5 (.i 4)] []) .ret) [] .skip))))) (.seq (.g [.m 16 (.t 0),.m 17 (.t 1),.c 18 146 [.t 16,.t 17],
 .m 4 (.t 18),.m 5 (.i 0)] [0,1,16,17,18]) .ret))) }
def s118_l0:SCode:=
 (.seq (.g [.o 11 (.bin .lss) [.t 10,.t 9]] []) (.seq (.cond (.T 11) [] .skip [1,8,9,10] (.exit 0)) (.seq (.block 1 (.seq (.g [
 .o 12 (.indexAddr 1) [.t 8,.t 10],.d 13 (.T 12),.m 7 (.t 13)] [13]) (.g [.m 14 (.T 5),.m 15 (.t 1),
 .m 16 (.t 7),.o 17 .callV [.t 15,.t 16],.o 18 (.lit 1 1 [.i 0] [0]) [.t 17],.o 19 (.append 1 8) [.T 14,.T 18],
 .m 5 (.T 19)] [7,15,16,17]))) (.g [.o 20 (.bin .add) [.t 10,.i 1],.m 10 (.t 20)] [20]))))
def s118:SFunc:={ fid:=118,mode:=.scp,nparams:=2,nboxes:=0,clr:=[],results:=[.tmp 4 true],body:=
 (.seq (.g [.o 4 .move [.const .nilSl]] [4]) (.seq (.g [.o 5 .move [.const .nilSl]] []) (.seq (.seq (.g [.m 8 (.T 0),
 .o 9 (.len .sl) [.t 8],.m 10 (.i 0)] []) (.block 0 (.loop s118_l0))) (.seq (.g [.m 21 (.T 5),
 .m 4 (.T 21)] []) .ret)))) }
def s119:SFunc:={ fid:=119,mode:=.pure,nparams:=3,nboxes:=0,clr:=[],results:=[.tmp 6 false,.tmp 7 false],body:=
 (.seq (.g [.m 6 (.i 0),.m 7 (.i 0)] [6,7]) (.seq (.seq (.g [.m 8 (.t 2),
 .o 9 (.bin .eql) [.t 8,.i 0]] [8]) (.cond (.T 9) [0,1,2] (.seq (.g [.m 6 (.i 0),
 .m 7 (.i 3)] []) .ret) [] .skip)) (.seq (.seq (.g [.m 10 (.t 2),
 .o 11 (.bin .eql) [.t 10,.const (.i (-1))]] [10]) (.cond (.T 11) [2] (.seq (.seq (.g [.m 12 (.t 0),
 .o 13 (.bin .eql) [.t 12,.i 17]] [0,12]) (.cond (.T 13) [] (.seq (.g [.m 14 (.t 1),
 .o 15 (.bin .sub) [.i 0,.t 14],.m 6 (.t 15),.m 7 (.i 0)] [1,14,15]) .ret) [1] .skip)) (.seq (.g [
 .m 6 (.i 0),.m 7 (.i 0)] []) .ret)) [] .skip)) (.seq (.seq (.g [.m 16 (.t 0),
 .o 17 (.bin .eql) [.t 16,.i 17]] [0,16]) (.cond (.T 17) [] (.seq (.g [.m 18 (.t 1),.m 19 (.t 2),
 .o 20 (.bin .quo) [.t 18,.t 19],.m 6 (.t 20),.m 7 (.i 0)] [1,2,18,19,20]) .ret) [] .skip)) (.seq (.g [
 .m 21 (.t 1),.m 22 (.t 2),.o 23 (.bin .rem) [.t 21,.t 22],.m 6 (.t 23),.m 7 (.i 0)] [1,2,21,22,23])
 .ret))))) }
def s120:SFunc:={ fid:=120,mode:=.pure,nparams:=1,nboxes:=0,clr:=[],results:=[.tmp 2 false],body:=
 (.seq (.g [.m 2 (.i 0)] [2]) (.seq (.seq (.g [.m 3 (.t 0)] [0]) (.cond (.T 3) [] (.seq (.g [
 .m 2 (.i 1)] []) .ret) [] .skip)) (.seq (.g [.m 2 (.i 0)] []) .ret))) }
def s140:SFunc:={ fid:=140,mode:=.pure,nparams:=0,nboxes:=1,clr:=[],results:=[.box 0 0 3 true],body:=
 (.seq (.g [.o 0 (.allocF 0 [.i 0,.i 0,.i 0]) []] []) (.seq (.g [
 .o 1 (.build [.i 0,.i 0,.i 0] []) [],.n (.storeF 0 3) [.t 0,.t 1]] [1]) .ret)) }
def s141:SFunc:={ fid:=141,mode:=.pure,nparams:=3,nboxes:=2,clr:=[],results:=[.tmp 6 false],body:=
 (.seq (.g [.o 3 (.boxF 0 5) [.T 0],.o 5 (.boxF 1 6) [.T 2],.m 6 (.b false)] [6]) (.seq (.r [.m 7 (.t 1),
 .o 8 (.bin .geq) [.t 7,.i 0],.m 9 (.t 8),.y 10 .move [.t 1] 9,.y 11 (.fieldAddr 2) [.t 3] 9,
 .y 12 (.loadF 0 false 1 false) [.t 11] 9,.y 13 (.len .sl) [.T 12] 9,.y 14 (.bin .lss) [.t 10,.t 13] 9,.o 15 .pick [.t 9,.t 14,.b false],
 .m 16 (.t 15),.y 17 (.loadF 1 true 6 false) [.t 5] 16,.y 18 (.call 162) [.T 17] 16,.o 19 .pick [.t 16,.t 18,.b false],
 .m 20 (.t 19),.y 21 (.loadF 0 true 5 false) [.t 3] 20,.y 22 .move [.t 1] 20,.y 23 (.fieldAddr 2) [.t 3] 20,
 .y 24 (.loadF 0 false 1 false) [.t 23] 20,.y 25 .move [.t 1] 20,.y 26 (.indexAddr 7) [.T 24,.t 25] 20,.y 27 (.load true 7 false) [.T 26] 20,
 .y 28 (.loadF 1 true 6 false) [.t 5] 20,
 .y 29 (.build [.nilSl,.nilSl,.nilSl,.nilSl,.i 0,.i 0,.i 0,.nilSl,.bool false,.i 0,.i 0,.i 0,.nilSl,.i 0,.i 0,.i 0,.i 0,.i 0,.nilSl] [(0,5),(5,1),(6,7),(13,6)]) [.T 21,.t 22,.T 27,.T 28] 20,
 .y 30 (.call 163) [.T 29] 20,.o 31 .pick [.t 20,.t 30,.b false],
 .m 6 (.t 31)] (some []) [1,3,5,7,8,9,10,11,12,13,14,15,16,17,18,19,20,21,22,23,24,25,26,27,28,29,30,31]) .ret)) }
def s142:SFunc:={ fid:=142,mode:=.scp,nparams:=4,nboxes:=0,clr:=[],results:=[],body:=
 (.seq (.g [.d 6 (.t 2),.m 7 (.t 1),.c 8 113 [.t 6,.t 7],.o 9 (.un .not) [.t 8]] [1,6,7,8]) (.cond (.T 9) []
 (.g [.d 10 (.T 2),.d 11 (.T 3),.m 12 (.t 0),
 .c 13 107 [.t 10,.t 11,.t 12]] [0,10,11,12,13]) [0,2,3] .skip)) }
def s143:SFunc:={ fid:=143,mode:=.pure,nparams:=1,nboxes:=0,clr:=[],results:=[.tmp 2 false],body:=
 (.seq (.g [.m 2 (.i 0)] [2]) (.seq (.seq (.g [.m 3 (.t 0)] [0]) (.cond (.T 3) [] (.seq (.g [
 .m 2 (.i 1)] []) .ret) [] .skip)) (.seq (.g [.m 2 (.i 0)] []) .ret))) }
def s144:SFunc:={ fid:=144,mode:=.opn,nparams:=3,nboxes:=0,clr:=[],results:=[.tmp 6 false,.tmp 7 false],body:=
 (.seq (.g [.o 6 .move [.const .nilPtr],.m 7 (.i 0)] [6,7]) (.seq (.g [.m 11 (.t 0),.m 12 (.t 1),
 .c 13 145 [.t 11,.t 12],.m 10 (.T 13),.o 14 (.extract 0) [.t 10],.o 15 (.extract 1) [.T 10],.m 8 (.T 14),
 .m 9 (.t 15)] [0,1,11,12,15]) (.seq (.block 0 (.seq (.g [.m 17 (.t 9),.o 18 (.un .not) [.t 17],.m 16 (.t 18)] [9,17,18])
 (.cond (.T 16) [2,8] (.seq (.g [.o 6 .move [.const .nilPtr],.m 7 (.i 1)] []) .ret) [] (.seq (.g [.m 20 (.t 2),
 .o 21 (.bin .lss) [.t 20,.i 0],.m 22 (.t 21),.z 23 .move [.t 2] 22,.z 24 .move [.t 8] 22,.z 25 (.len .sl) [.T 24] 22,
 .z 26 (.bin .geq) [.t 23,.t 25] 22,.o 27 .pick [.t 22,.b true,.t 26],.m 19 (.t 27)] [20,21,22,23,24,25,26,27]) (.cond (.T 19) [2,8]
 (.seq (.g [.o 6 .move [.const .nilPtr],.m 7 (.i 2)] []) .ret) [] .skip))))) (.seq (.g [.m 28 (.T 8),
 .m 29 (.t 2),.o 30 (.indexAddr 1) [.T 28,.t 29],.m 6 (.T 30),.m 7 (.i 0)] [2,29]) .ret)))) }
def s145:SFunc:={ fid:=145,mode:=.opn,nparams:=2,nboxes:=0,clr:=[],results:=[.tmp 4 true,.tmp 5 false],body:=
 (.seq (.g [.o 4 .move [.const .nilSl],.m 5 (.b false)] [4,5]) (.seq (.seq (.g [.m 6 (.t 0),
 .o 7 (.eqv .ptr false) [.t 6,.const .nilPtr],.m 8 (.t 7),.z 9 .move [.t 1] 8,.z 10 (.bin .lss) [.t 9,.i 1] 8,
 .o 11 .pick [.t 8,.b true,.t 10],.m 12 (.t 11),.z 13 .move [.t 1] 12,.z 14 .move [.t 0] 12,.z 15 .nilCheck [.t 14] 12,
 .z 16 (.fieldAddr 0) [.T 15] 12,.z 17 (.load false 1 false) [.T 16] 12,.z 18 (.len .sl) [.T 17] 12,.z 19 (.bin .gtr) [.t 13,.t 18] 12,
 .o 20 .pick [.t 12,.b true,.t 19]] [6,7,8,9,10,11,12,13,14,15,16,17,18,19]) (.cond (.T 20) [0,1] (.seq (.g [.o 4 .move [.const .nilSl],
 .m 5 (.b false)] []) .ret) [] .skip)) (.seq (.g [.m 21 (.t 0),.o 22 .nilCheck [.t 21],.f 23 0 (.T 22),
 .d 24 (.T 23),.m 25 (.t 1),.o 26 (.bin .sub) [.t 25,.i 1],.o 27 (.indexAddr 1) [.T 24,.t 26],
 .d 28 (.T 27),.m 4 (.T 28),.m 5 (.b true)] [0,1,21,25,26]) .ret))) }
def s146:SFunc:={ fid:=146,mode:=.opn,nparams:=2,nboxes:=0,clr:=[],results:=[.tmp 4 false],body:=
 (.seq (.g [.m 4 (.i 0)] [4]) (.seq (.r [.m 5 (.t 0),.m 6 (.t 0),.o 7 .nilCheck [.t 6],
 .f 8 0 (.T 7),.d 9 (.T 8),.m 10 (.t 1),.o 11 (.makeSl 1 8 [.i 0] true) [.t 10,.t 10],
 .o 12 (.litM 1 1 [.nilSl] [0]) [.T 11],.o 13 (.appendM 1 24) [.T 9,.T 12],.o 14 .nilCheck [.t 5],.f 15 0 (.T 14),
 .n (.store 1) [.T 15,.T 13]] (some [(4,6),(4,7)]) [1,5,6,10]) (.seq (.g [.m 16 (.t 0),.o 17 .nilCheck [.t 16],.f 18 0 (.T 17),
 .d 19 (.T 18),.o 20 (.len .sl) [.T 19],.m 4 (.t 20)] [0,16,20]) .ret))) }
def s162:SFunc:={ fid:=162,mode:=.pure,nparams:=1,nboxes:=1,clr:=[],results:=[.tmp 2 false],body:=
 (.seq (.g [.o 1 (.boxF 0 6) [.T 0],.m 2 (.b false)] [2]) (.seq (.seq (.g [.f 3 0 (.t 1),
 .l 4 0 (.t 3)] [3]) (.block 0 (.seq (.seq (.g [.o 6 (.bin .eql) [.t 4,.i 1],.m 5 (.t 6)] [6])
 (.cond (.t 5) [] .skip [5] (.seq (.g [.o 7 (.bin .eql) [.t 4,.i 11],.m 5 (.t 7)] [7]) (.cond (.t 5) [] .skip [5] (.seq
 (.g [.o 8 (.bin .eql) [.t 4,.i 19],.m 5 (.t 8)] [8]) (.cond (.t 5) [] .skip [5] (.g [
 .o 9 (.bin .eql) [.t 4,.i 20],.m 5 (.t 9)] [9]))))))) (.cond (.T 5) [4] (.seq (.g [.o 10 (.loadF 0 true 6 false) [.t 1],
 .c 11 170 [.T 10,.b true,.b false,.b false,.b true],.m 2 (.t 11)] [1,11]) .ret) [] (.seq
 (.seq (.g [.o 13 (.bin .eql) [.t 4,.i 2],.m 12 (.t 13)] [13]) (.cond (.t 12) [] .skip [12] (.seq (.g [
 .o 14 (.bin .eql) [.t 4,.i 14],.m 12 (.t 14)] [14]) (.cond (.t 12) [] .skip [12] (.seq (.g [
 .o 15 (.bin .eql) [.t 4,.i 15],.m 12 (.t 15)] [15]) (.cond (.t 12) [] .skip [12] (.g [
 .o 16 (.bin .eql) [.t 4,.i 18],.m 12 (.t 16)] [16]))))))) (.cond (.T 12) [4] (.seq (.g [
 .o 17 (.loadF 0 true 6 false) [.t 1],.c 18 170 [.T 17,.b true,.b false,.b false,.b false],
 .m 2 (.t 18)] [1,18]) .ret) [] (.seq (.seq (.g [.o 20 (.bin .eql) [.t 4,.i 3],.m 19 (.t 20)] [20])
 (.cond (.t 19) [] .skip [19] (.g [.o 21 (.bin .eql) [.t 4,.i 10],.m 19 (.t 21)] [21]))) (.cond (.T 19) [4] (.seq (.g [
 .o 22 (.loadF 0 true 6 false) [.t 1],.c 23 170 [.T 22,.b true,.b true,.b false,.b false],
 .m 2 (.t 23)] [1,23]) .ret) [] (.seq (.seq (.g [.o 25 (.bin .eql) [.t 4,.i 5],.m 24 (.t 25)] [25])
 (.cond (.t 24) [] .skip [24] (.g [.o 26 (.bin .eql) [.t 4,.i 12],.m 24 (.t 26)] [26]))) (.cond (.T 24) [4] (.seq (.g [
 .o 27 (.loadF 0 true 6 false) [.t 1],.c 28 170 [.T 27,.b true,.b true,.b false,.b true],
 .m 2 (.t 28)] [1,28]) .ret) [] (.seq (.seq (.g [.o 30 (.bin .eql) [.t 4,.i 6],.m 29 (.t 30)] [30])
 (.cond (.t 29) [] .skip [29] (.seq (.g [.o 31 (.bin .eql) [.t 4,.i 7],.m 29 (.t 31)] [31]) (.cond (.t 29) [] .skip [29]
 (.seq (.g [.o 32 (.bin .eql) [.t 4,.i 8],.m 29 (.t 32)] [32]) (.cond (.t 29) [] .skip [29] (.g [
 .o 33 (.bin .eql) [.t 4,.i 9],.m 29 (.t 33)] [33]))))))) (.cond (.T 29) [4] (.seq (.g [.o 34 (.loadF 0 true 6 false) [.t 1],
 .c 35 170 [.T 34,.b true,.b true,.b true,.b false],.m 2 (.t 35)] [1,35]) .ret) [] (.seq
 (.g [.o 37 (.bin .eql) [.t 4,.i 4],.m 36 (.t 37)] [37]) (.cond (.T 36) [4] (.seq (.g [
 .o 38 (.loadF 0 true 6 false) [.t 1],.c 39 170 [.T 38,.b true,.b true,.b true,.b true],
 .m 2 (.t 39)] [1,39]) .ret) [] (.seq (.g [.o 41 (.bin .eql) [.t 4,.i 13],.m 40 (.t 41)] [41]) (.cond (.T 40) [4]
 (.seq (.g [.o 42 (.loadF 0 true 6 false) [.t 1],
 .c 43 170 [.T 42,.b true,.b false,.b true,.b false],.m 2 (.t 43)] [1,43]) .ret) [] (.seq
 (.g [.o 45 (.bin .eql) [.t 4,.i 16],.m 44 (.t 45)] [45]) (.cond (.T 44) [4] (.seq (.g [
 .o 46 (.loadF 0 true 6 false) [.t 1],.c 47 170 [.T 46,.b false,.b false,.b false,.b true],
 .m 2 (.t 47)] [1,47]) .ret) [] (.seq (.g [.o 49 (.bin .eql) [.t 4,.i 17],.m 48 (.t 49)] [4,49]) (.cond (.T 48) []
 (.seq (.g [.o 50 (.loadF 0 true 6 false) [.t 1],
 .c 51 170 [.T 50,.b true,.b false,.b true,.b true],.m 2 (.t 51)] [1,51]) .ret) [1]
 .skip)))))))))))))))))))) (.seq (.g [.m 2 (.b false)] []) .ret))) }
end Code14z
