/- The annotated code of the loaded program,printed by wip/tools/gen.py. -/
import Derived.Test.YtgblgbgjmgjfkaaA6

set_option maxRecDepth 100000
namespace Code14
open Ax Go
def s3:SFunc:={ fid:=3,mode:=.pure,nparams:=4,nboxes:=3,clr:=[],results:=[.tmp 8 false],body:=
 (.seq (.g [.o 4 (.boxF 0 5) [.T 0],.m 8 (.b false)] [8]) (.seq (.seq (.g [.o 11 (.loadF 0 true 5 false) [.t 4],
 .c 12 5 [.T 11],.m 13 (.t 12),.z 14 .move [.t 1] 13,.z 15 (.len .sl) [.T 14] 13,.z 16 (.bin .gtr) [.t 15,.i 100] 13,
 .o 17 .pick [.t 13,.b true,.t 16],.m 18 (.t 17),.z 19 .move [.t 2] 18,.z 20 (.bin .lss) [.t 19,.i 0] 18,
 .o 21 .pick [.t 18,.b true,.t 20],.m 22 (.t 21),.z 23 .move [.t 2] 22,.z 24 (.bin .gtr) [.t 23,.i 8000] 22,
 .o 25 .pick [.t 22,.b true,.t 24],.m 26 (.t 25),.z 27 .move [.t 3] 26,.z 28 (.bin .lss) [.t 27,.i 0] 26,
 .o 29 .pick [.t 26,.b true,.t 28],.m 30 (.t 29),.z 31 .move [.t 3] 30,.z 32 (.bin .gtr) [.t 31,.i 8000] 30,
 .o 33 .pick [.t 30,.b true,.t 32]] [12,13,14,15,16,17,18,19,20,21,22,23,24,25,26,27,28,29,30,31,32]) (.cond (.T 33) [1,2,3,4] (.seq
 (.g [.m 8 (.b true)] []) .ret) [] .skip)) (.seq (.g [.o 34 (.loadF 0 true 5 false) [.t 4],.m 35 (.t 1),
 .m 36 (.t 2),.c 37 6 [.T 34,.T 35,.t 36],.o 9 (.allocF 1 [.i 0,.i 0,.nilSl,.i 0]) [],
 .n (.storeF 1 4) [.t 9,.T 37]] [36]) (.seq (.g [.o 38 (.loadF 0 true 5 false) [.t 4],.m 39 (.T 1),.m 40 (.t 2),.m 41 (.t 3),
 .o 42 (.bin .add) [.t 40,.t 41],.c 43 6 [.T 38,.T 39,.t 42],.o 10 (.allocF 2 [.i 0,.i 0,.nilSl,.i 0]) [],
 .n (.storeF 2 4) [.t 10,.T 43]] [3,4,40,41,42]) (.seq (.seq (.g [.f 44 0 (.t 9),.l 45 1 (.t 44),
 .o 46 (.bin .eql) [.t 45,.i 3]] [44,45]) (.cond (.T 46) [] (.seq (.g [.f 47 3 (.t 9),
 .l 48 1 (.t 47),.m 49 (.t 2),.o 50 (.bin .eql) [.t 48,.t 49],.m 51 (.t 50),.y 52 (.fieldAddr 3) [.t 10] 51,
 .y 53 (.loadF 2 false 1 false) [.t 52] 51,.y 54 .move [.t 2] 51,.y 55 (.bin .geq) [.t 53,.t 54] 51,.o 56 .pick [.t 51,.t 55,.b false],
 .m 57 (.t 56),.y 58 (.fieldAddr 2) [.t 9] 57,.y 59 (.loadF 1 false 1 false) [.t 58] 57,.y 60 (.fieldAddr 2) [.t 10] 57,
 .y 61 (.loadF 2 false 1 false) [.t 60] 57,.y 62 (.call 7) [.T 59,.T 61] 57,.o 63 .pick [.t 57,.t 62,.b false],.m 64 (.t 63),
 .y 65 (.call 8) [] 64,.o 66 .pick [.t 64,.t 65,.b false],
 .m 8 (.t 66)] [2,9,10,47,48,49,50,51,52,53,54,55,56,57,58,59,60,61,62,63,64,65,66]) .ret) [] .skip)) (.seq (.g [
 .o 67 (.loadF 1 true 4 false) [.t 9],.o 68 (.loadF 2 true 4 false) [.t 10],.c 69 9 [.T 67,.T 68],.m 70 (.t 69),
 .y 71 (.fieldAddr 3) [.t 9] 70,.y 72 (.loadF 1 false 1 false) [.t 71] 70,.y 73 .move [.t 2] 70,.y 74 (.bin .leq) [.t 72,.t 73] 70,
 .o 75 .pick [.t 70,.t 74,.b false],.m 76 (.t 75),.y 77 (.call 8) [] 76,.o 78 .pick [.t 76,.t 77,.b false],
 .m 8 (.t 78)] [2,9,10,69,70,71,72,73,74,75,76,77,78]) .ret)))))) }
def s4:SFunc:={ fid:=4,mode:=.pure,nparams:=3,nboxes:=2,clr:=[],results:=[.tmp 6 false],body:=
 (.seq (.g [.m 6 (.b false)] [6]) (.seq (.seq (.g [.m 9 (.t 0),.o 10 (.bin .lss) [.t 9,.const (.i (-5))],
 .m 11 (.t 10),.z 12 .move [.t 0] 11,.z 13 (.bin .gtr) [.t 12,.i 3000] 11,.o 14 .pick [.t 11,.b true,.t 13],
 .m 15 (.t 14),.z 16 .move [.t 2] 15,.z 17 (.bin .lss) [.t 16,.i 0] 15,.o 18 .pick [.t 15,.b true,.t 17],
 .m 19 (.t 18),.z 20 .move [.t 2] 19,.z 21 (.bin .gtr) [.t 20,.i 50] 19,
 .o 22 .pick [.t 19,.b true,.t 21]] [9,10,11,12,13,14,15,16,17,18,19,20,21]) (.cond (.T 22) [0,1,2] (.seq (.g [
 .m 6 (.b true)] []) .ret) [] .skip)) (.seq (.g [
 .o 23 (.build [.i 0,.i 0,.i 0] [(0,1)]) [.i 2],
 .o 24 (.build [.i 0,.i 0,.i 0] [(0,1)]) [.i 1],
 .o 25 (.lit 3 2 [.i 0,.i 0,.i 0] [0,1]) [.t 23,.t 24],
 .o 26 (.build [.i 0,.i 0,.i 0,.i 0,.i 0,.nilSl] [(0,1)]) [.i 1],.m 27 (.t 2),
 .o 28 (.build [.i 0,.i 0,.i 0,.i 0,.i 0,.nilSl] [(0,1),(1,1),(4,1)]) [.i 1,.i 1,.t 27],
 .o 29 (.build [.i 0,.i 0,.i 0,.i 0,.i 0,.nilSl] [(0,1),(4,1),(3,1)]) [.i 17,.i 3,.i 4],
 .o 30 (.build [.i 0,.i 0,.i 0,.i 0,.i 0,.nilSl] [(0,1),(4,1)]) [.i 16,.i 3],
 .o 31 (.build [.i 0,.i 0,.i 0,.i 0,.i 0,.nilSl] [(0,1),(1,1)]) [.i 15,.i 1],
 .o 32 (.build [.i 0,.i 0,.i 0,.i 0,.i 0,.nilSl] [(0,1),(1,1)]) [.i 18,.const (.i (-1))],
 .o 33 (.litM 6 6 [.i 0,.i 0,.i 0,.i 0,.i 0,.nilSl] [0,1,2,3,4,5]) [.T 26,.T 28,.T 29,.T 30,.T 31,.T 32],
 .o 34 (.build [.i 0,.nilSl,.bool false,.i 0,.i 0,.i 0,.nilSl] [(1,1),(6,1)]) [.T 25,.T 33],
 .o 35 (.litM 7 1 [.i 0,.nilSl,.bool false,.i 0,.i 0,.i 0,.nilSl] [0]) [.T 34],
 .o 36 (.build [.nilSl,.nilSl,.nilSl,.nilSl,.i 0] [(2,1)]) [.T 35],.o 7 (.allocF 0 [.nilSl,.nilSl,.nilSl,.nilSl,.i 0]) [],
 .n (.storeF 0 5) [.t 7,.T 36]] [23,24,27]) (.seq (.seq (.g [.m 37 (.t 1)] []) (.cond (.T 37) [] (.g [.f 38 2 (.t 7),
 .l 39 0 (.t 38),.o 40 (.indexAddr 7) [.T 39,.i 0],.f 41 6 (.T 40),.d 42 (.T 41),
 .o 43 (.indexAddr 6) [.T 42,.i 0],.f 44 4 (.T 43),.n (.store 1) [.T 44,.i 1]] [38]) [] .skip)) (.seq
 (.seq (.frzB 0 2) (.g [.o 45 (.loadF 0 true 5 false) [.t 7],.m 46 (.t 0),.c 47 6 [.T 45,.const .nilSl,.t 46],
 .o 8 (.allocF 1 [.i 0,.i 0,.nilSl,.i 0]) [],.n (.storeF 1 4) [.t 8,.T 47]] [7,46])) (.seq (.seq (.g [
 .f 48 3 (.t 8),.l 49 1 (.t 48),.m 50 (.t 0),.f 51 3 (.t 8),.l 52 1 (.t 51),
 .o 53 (.minmax false) [.t 50,.t 52],.o 54 (.minmax true) [.i 0,.t 53],.o 55 (.bin .neq) [.t 49,.t 54]] [48,49,50,51,52,53,54])
 (.cond (.T 55) [0,1,2,8] (.seq (.g [.m 6 (.b false)] []) .ret) [] .skip)) (.seq (.seq (.g [.m 56 (.t 1),
 .m 57 (.t 56),.z 58 .move [.t 0] 57,.z 59 (.bin .lss) [.t 58,.i 5] 57,
 .o 60 .pick [.t 57,.b true,.t 59]] [56,57,58,59]) (.cond (.T 60) [2] (.seq (.r [.f 61 0 (.t 8),
 .l 62 1 (.t 61),.o 63 (.bin .eql) [.t 62,.i 3],.m 64 (.t 63),.y 65 (.fieldAddr 3) [.t 8] 64,
 .y 66 (.loadF 1 false 1 false) [.t 65] 64,.y 67 .move [.t 0] 64,.y 68 (.minmax true) [.t 67,.i 0] 64,.y 69 (.bin .eql) [.t 66,.t 68] 64,
 .o 70 .pick [.t 64,.t 69,.b false],.m 71 (.t 70),.y 72 (.fieldAddr 2) [.t 8] 71,.y 73 (.loadF 1 false 1 false) [.t 72] 71,
 .y 74 (.len .sl) [.T 73] 71,.y 75 .move [.t 0] 71,.y 76 (.bin .sub) [.t 75,.i 3] 71,.y 77 (.minmax false) [.i 1,.t 76] 71,
 .y 78 (.minmax true) [.i 0,.t 77] 71,.y 79 .move [.t 1] 71,.y 80 (.un .not) [.t 79] 71,.y 81 (.call 10) [.t 80] 71,
 .y 82 (.bin .mul) [.t 78,.t 81] 71,.y 83 (.bin .eql) [.t 74,.t 82] 71,.o 84 .pick [.t 71,.t 83,.b false],.m 85 (.t 84),
 .y 86 (.call 8) [] 85,.o 87 .pick [.t 85,.t 86,.b false],
 .m 6 (.t 87)] (some []) [0,1,8,61,62,63,64,65,66,67,68,69,70,71,72,73,74,75,76,77,78,79,80,81,82,83,84,85,86,87]) .ret) [0,1] .skip)) (.seq (.g [
 .f 88 0 (.t 8),.l 89 1 (.t 88),.o 90 (.bin .eql) [.t 89,.i 1],.m 91 (.t 90),
 .y 92 (.fieldAddr 3) [.t 8] 91,.y 93 (.loadF 1 false 1 false) [.t 92] 91,.y 94 (.bin .eql) [.t 93,.i 5] 91,
 .o 95 .pick [.t 91,.t 94,.b false],.m 96 (.t 95),.y 97 (.fieldAddr 2) [.t 8] 96,.y 98 (.loadF 1 false 1 false) [.t 97] 96,
 .y 99 .move [.t 2] 96,.y 100 (.lit 1 1 [.i 0] [0]) [.t 99] 96,.y 101 (.call 11) [.T 98,.T 100] 96,.o 102 .pick [.t 96,.t 101,.b false],
 .m 103 (.t 102),.y 104 (.call 8) [] 103,.o 105 .pick [.t 103,.t 104,.b false],
 .m 6 (.t 105)] [2,8,88,89,90,91,92,93,94,95,96,97,98,99,100,101,102,103,104,105]) .ret)))))))) }
def s5_l0:SCode:=
 (.seq (.seq (.g [.m 26 (.t 3),.f 27 2 (.t 1),.l 28 0 (.t 27),.o 29 (.len .sl) [.T 28],
 .o 30 (.bin .lss) [.t 26,.t 29]] [26,27,29]) (.cond (.T 30) [] .skip [1,3] (.exit 0))) (.seq (.block 1 (.seq (.g [.f 33 2 (.t 1),
 .l 34 0 (.t 33),.m 35 (.t 3),.o 36 (.indexAddr 7) [.T 34,.t 35],.f 37 1 (.T 36),
 .d 38 (.T 37),.o 39 (.len .sl) [.T 38],.o 40 (.bin .gtr) [.t 39,.i 500],.m 41 (.t 40),
 .z 42 (.fieldAddr 2) [.t 1] 41,.z 43 (.loadF 0 false 1 false) [.t 42] 41,.z 44 .move [.t 3] 41,.z 45 (.indexAddr 7) [.T 43,.t 44] 41,
 .z 46 (.fieldAddr 6) [.T 45] 41,.z 47 (.load false 1 false) [.T 46] 41,.z 48 (.len .sl) [.T 47] 41,.z 49 (.bin .gtr) [.t 48,.i 500] 41,
 .o 50 .pick [.t 41,.b true,.t 49]] [33,35,39,40,41,42,43,44,45,46,47,48,49]) (.cond (.T 50) [1,3] (.seq (.g [
 .m 2 (.b true)] []) .ret) [] .skip))) (.g [.m 31 (.t 3),.o 32 (.bin .add) [.t 31,.i 1],
 .m 3 (.t 32)] [31,32])))
def s5:SFunc:={ fid:=5,mode:=.pure,nparams:=1,nboxes:=1,clr:=[],results:=[.tmp 2 false],body:=
 (.seq (.g [.o 1 (.boxF 0 5) [.T 0],.m 2 (.b false)] [2]) (.seq (.seq (.g [.f 4 0 (.t 1),
 .l 5 0 (.t 4),.o 6 (.len .sl) [.T 5],.o 7 (.bin .gtr) [.t 6,.i 20],.m 8 (.t 7),.z 9 (.fieldAddr 1) [.t 1] 8,
 .z 10 (.loadF 0 false 1 false) [.t 9] 8,.z 11 (.len .sl) [.T 10] 8,.z 12 (.bin .gtr) [.t 11,.i 20] 8,
 .o 13 .pick [.t 8,.b true,.t 12],.m 14 (.t 13),.z 15 (.fieldAddr 2) [.t 1] 14,.z 16 (.loadF 0 false 1 false) [.t 15] 14,
 .z 17 (.len .sl) [.T 16] 14,.z 18 (.bin .gtr) [.t 17,.i 20] 14,.o 19 .pick [.t 14,.b true,.t 18],.m 20 (.t 19),
 .z 21 (.fieldAddr 3) [.t 1] 20,.z 22 (.loadF 0 false 1 false) [.t 21] 20,.z 23 (.len .sl) [.T 22] 20,.z 24 (.bin .gtr) [.t 23,.i 80] 20,
 .o 25 .pick [.t 20,.b true,.t 24]] [4,6,7,8,9,10,11,12,13,14,15,16,17,18,19,20,21,22,23,24]) (.cond (.T 25) [1] (.seq (.g [
 .m 2 (.b true)] []) .ret) [] .skip)) (.seq (.seq (.g [.m 3 (.i 0)] []) (.block 0 (.loop s5_l0))) (.seq
 (.g [.m 2 (.b false)] []) .ret)))) }
def s6_l0:SCode:=
 (.seq (.g [.o 29 (.bin .lss) [.t 28,.t 27]] []) (.seq (.cond (.T 29) [] .skip [27,28] (.exit 0)) (.seq (.block 1 (.seq (.g [
 .m 30 (.t 28),.m 8 (.t 30)] [30]) (.r [.m 31 (.t 7),.m 32 (.t 7),.o 33 .nilCheck [.t 32],.f 34 5 (.T 33),
 .o 35 (.load false 1 true) [.T 34],.o 36 (.loadF 0 true 5 false) [.t 3],.m 37 (.t 8),.c 38 15 [.T 36,.t 37],.o 39 (.len .sl) [.T 38],
 .o 40 (.lit 1 1 [.i 0] [0]) [.t 39],.o 41 (.append 1 8) [.T 35,.T 40],.o 42 .nilCheck [.t 31],.f 43 5 (.T 42),
 .n (.store 1) [.T 43,.T 41]] (some [(7,4),(8,4)]) [8,31,32,37,39]))) (.g [.o 44 (.bin .add) [.t 28,.i 1],
 .m 28 (.t 44)] [44]))))
def s6_l1:SCode:=
 (.seq (.seq (.g [.m 58 (.t 7),.o 59 .nilCheck [.t 58],.f 60 11 (.T 59),.f 61 0 (.T 60),
 .d 62 (.T 61),.o 63 (.bin .eql) [.t 62,.i 0]] [58,62]) (.cond (.T 63) [] .skip [2,3] (.exit 2))) (.block 3 (.seq
 (.seq (.g [.m 64 (.t 7),.o 65 .nilCheck [.t 64],.f 66 11 (.T 65),.f 67 3 (.T 66),
 .d 68 (.T 67),.m 69 (.t 2),.o 70 (.minmax true) [.t 69,.i 0],
 .o 71 (.bin .geq) [.t 68,.t 70]] [64,68,69,70]) (.cond (.T 71) [2,3] (.seq (.g [.m 72 (.t 7),.o 73 .nilCheck [.t 72],
 .f 74 11 (.T 73),.f 75 0 (.T 74),.n (.store 1) [.T 75,.i 3]] [72]) (.exit 2)) [] .skip)) (.seq (.g [
 .m 76 (.t 7),.o 77 .nilCheck [.t 76],.f 78 11 (.T 77),.f 79 3 (.T 78),.d 80 (.T 79),
 .o 81 (.bin .add) [.t 80,.i 1],.o 82 .nilCheck [.t 76],.f 83 11 (.T 82),.f 84 3 (.T 83),
 .n (.store 1) [.T 84,.t 81]] [76,80,81]) (.seq (.g [.m 85 (.t 7),.c 86 17 [.t 85],.m 9 (.t 86)] [85,86]) (.seq
 (.r [.f 87 2 (.t 3),.l 88 0 (.t 87),.m 89 (.t 9),.o 90 .nilCheck [.t 89],.f 91 0 (.T 90),
 .d 92 (.T 91),.o 93 (.indexAddr 7) [.T 88,.t 92],.f 94 6 (.T 93),.d 95 (.T 94),
 .m 96 (.t 9),.o 97 .nilCheck [.t 96],.f 98 1 (.T 97),.d 99 (.T 98),.o 100 (.indexAddr 6) [.T 95,.t 99],
 .o 101 (.load true 6 false) [.T 100],.o 10 (.allocF 2 [.i 0,.i 0,.i 0,.i 0,.i 0,.nilSl]) [],
 .n (.storeF 2 6) [.t 10,.T 101]] (some []) [87,89,92,96,99]) (.seq (.g [.m 102 (.t 9),.o 103 .nilCheck [.t 102],.f 104 1 (.T 103),
 .d 105 (.T 104),.o 106 (.bin .add) [.t 105,.i 1],.o 107 .nilCheck [.t 102],.f 108 1 (.T 107),
 .n (.store 1) [.T 108,.t 106]] [9,102,105,106]) (.r [.m 109 (.t 7),.o 110 .nilCheck [.t 109],.f 111 10 (.T 110),
 .d 112 (.T 111),.f 113 0 (.t 10),.l 114 2 (.t 113),
 .o 115 (.lookup .int .nilFn false) [.t 112,.t 114],.m 116 (.t 7),.o 117 (.loadF 2 true 6 false) [.t 10],
 .o 118 .callV [.t 115,.t 116,.T 117]] (some []) [10,109,112,113,114,115,116,118]))))))))
def s6:SFunc:={ fid:=6,mode:=.pure,nparams:=3,nboxes:=3,clr:=[],results:=[.box 6 1 4 true],body:=
 (.seq (.g [.o 3 (.boxF 0 5) [.T 0],.o 6 (.allocF 1 [.i 0,.i 0,.nilSl,.i 0]) []] []) (.seq (.seq (.g [
 .o 11 (.loadF 0 true 5 false) [.t 3],.c 12 12 [.T 11],.o 13 (.un .not) [.t 12]] [12]) (.cond (.T 13) [1,2,3] (.seq (.g [
 .o 14 (.build [.i 0,.i 0,.nilSl,.i 0] []) [],.n (.storeF 1 4) [.t 6,.T 14]] []) .ret) [] .skip)) (.seq (.r [
 .o 15 (.loadF 0 true 5 false) [.t 3],.c 16 13 [],.m 17 (.T 1),.f 18 1 (.t 3),.l 19 0 (.t 18),
 .o 20 (.len .sl) [.T 19],.o 21 (.makeRaw 1 8 [.i 0]) [.t 20,.t 20],.c 22 14 [],
 .o 23 (.build [.nilSl,.nilSl,.nilSl,.nilSl,.i 0,.nilSl,.nilPtr,.nilSl,.nilSl,.nilSl,.nilMap,.i 0,.i 0,.nilSl,.i 0] [(0,5),(6,1),(7,1),(8,1),(10,1)]) [.T 15,.t 16,.T 17,.T 21,.t 22],
 .o 24 (.box 15) [.T 23],.m 7 (.t 24)] (some [(5,1),(5,7)]) [16,18,20,22,24]) (.seq (.seq (.seq (.frzH 7 8) (.g [.f 25 3 (.t 3),
 .l 26 0 (.t 25),.o 27 (.len .sl) [.T 26],.m 28 (.i 0)] [25])) (.block 0 (.loop s6_l0))) (.seq (.r [
 .m 45 (.t 7),.m 46 (.t 7),.o 47 .nilCheck [.t 46],.f 48 9 (.T 47),.d 49 (.T 48),.m 50 (.t 7),
 .f 51 4 (.t 3),.l 52 0 (.t 51),.c 53 16 [.t 50,.t 52,.const (.i (-1))],
 .o 54 (.litM 1 1 [.nilPtr] [0]) [.t 53],.o 55 (.appendM 1 8) [.T 49,.T 54],.o 56 .nilCheck [.t 45],.f 57 9 (.T 56),
 .n (.store 1) [.T 57,.T 55]] (some [(4,8),(4,9)]) [45,46,50,51,52,53]) (.seq (.block 2 (.loop s6_l1)) (.seq (.seq (.frzH 7 13) (.g [.m 119 (.t 7),
 .o 120 .nilCheck [.t 119],.f 121 11 (.T 120),.o 122 (.load true 4 false) [.T 121],.n (.storeF 1 4) [.t 6,.T 122]] [7,119])) .ret))))))) }
def s7:SFunc:={ fid:=7,mode:=.pure,nparams:=2,nboxes:=0,clr:=[],results:=[.tmp 4 false],body:=
 (.seq (.g [.m 4 (.b false)] [4]) (.seq (.g [.m 5 (.t 0),.o 6 (.len .sl) [.T 5],.m 7 (.t 1),
 .o 8 (.len .sl) [.T 7],.o 9 (.bin .leq) [.t 6,.t 8],.m 10 (.t 9),.y 11 .move [.t 0] 10,.y 12 .move [.T 1] 10,.y 13 .move [.T 0] 10,
 .y 14 (.len .sl) [.T 13] 10,.y 15 (.slice false false true false 1) [.T 12,.t 14] 10,.y 16 (.call 11) [.T 11,.T 15] 10,
 .o 17 .pick [.t 10,.t 16,.b false],.m 4 (.t 17)] [0,1,6,8,9,10,11,12,13,14,15,16,17]) .ret)) }
def s8:SFunc:={ fid:=8,mode:=.pure,nparams:=0,nboxes:=2,clr:=[],results:=[.tmp 0 false],body:=
 (.seq (.g [.m 0 (.b false)] [0]) (.seq (.g [
 .o 3 (.build [.i 0,.i 0,.i 0] [(0,1)]) [.i 1],.o 4 (.lit 3 1 [.i 0,.i 0,.i 0] [0]) [.t 3],
 .o 5 (.build [.i 0,.i 0,.i 0,.i 0,.i 0,.nilSl] [(0,1),(4,1)]) [.i 1,.i 3],
 .o 6 (.build [.i 0,.i 0,.i 0,.i 0,.i 0,.nilSl] [(0,1)]) [.i 15],
 .o 7 (.build [.i 0,.i 0,.i 0,.i 0,.i 0,.nilSl] [(0,1),(1,1)]) [.i 18,.const (.i (-1))],
 .o 8 (.lit 6 3 [.i 0,.i 0,.i 0,.i 0,.i 0,.nilSl] [0,1,2]) [.T 5,.T 6,.T 7],
 .o 9 (.build [.i 0,.nilSl,.bool false,.i 0,.i 0,.i 0,.nilSl] [(1,1),(6,1)]) [.T 4,.T 8],
 .o 10 (.lit 7 1 [.i 0,.nilSl,.bool false,.i 0,.i 0,.i 0,.nilSl] [0]) [.T 9],
 .o 11 (.build [.nilSl,.nilSl,.nilSl,.nilSl,.i 0] [(2,1)]) [.T 10],.o 1 (.allocF 0 [.nilSl,.nilSl,.nilSl,.nilSl,.i 0]) [],
 .n (.storeF 0 5) [.t 1,.T 11]] [3]) (.seq (.g [.o 12 (.loadF 0 true 5 false) [.t 1],.c 13 6 [.T 12,.const .nilSl,.i 9],
 .o 2 (.allocF 1 [.i 0,.i 0,.nilSl,.i 0]) [],.n (.storeF 1 4) [.t 2,.T 13]] [1]) (.seq (.g [.f 14 0 (.t 2),
 .l 15 1 (.t 14),.o 16 (.bin .eql) [.t 15,.i 1],.m 17 (.t 16),.y 18 (.fieldAddr 2) [.t 2] 17,
 .y 19 (.loadF 1 false 1 false) [.t 18] 17,.y 20 (.len .sl) [.T 19] 17,.y 21 (.bin .eql) [.t 20,.i 1] 17,
 .o 22 .pick [.t 17,.t 21,.b false],.m 23 (.t 22),.y 24 (.fieldAddr 2) [.t 2] 23,.y 25 (.loadF 1 false 1 false) [.t 24] 23,
 .y 26 (.indexAddr 1) [.T 25,.i 0] 23,.y 27 (.load false 1 false) [.T 26] 23,.y 28 (.bin .eql) [.t 27,.i 3] 23,
 .o 29 .pick [.t 23,.t 28,.b false],.m 30 (.t 29),.y 31 (.fieldAddr 3) [.t 2] 30,.y 32 (.loadF 1 false 1 false) [.t 31] 30,
 .y 33 (.bin .eql) [.t 32,.i 3] 30,.o 34 .pick [.t 30,.t 33,.b false],
 .m 0 (.t 34)] [2,14,15,16,17,18,19,20,21,22,23,24,25,26,27,28,29,30,31,32,33,34]) .ret)))) }
def s9:SFunc:={ fid:=9,mode:=.pure,nparams:=2,nboxes:=2,clr:=[],results:=[.tmp 4 false],body:=
 (.seq (.g [.o 2 (.boxF 0 4) [.T 0],.o 3 (.boxF 1 4) [.T 1],.m 4 (.b false)] [4]) (.seq (.g [.f 5 0 (.t 2),
 .l 6 0 (.t 5),.f 7 0 (.t 3),.l 8 1 (.t 7),.o 9 (.bin .eql) [.t 6,.t 8],.m 10 (.t 9),
 .y 11 (.fieldAddr 1) [.t 2] 10,.y 12 (.loadF 0 false 1 false) [.t 11] 10,.y 13 (.fieldAddr 1) [.t 3] 10,.y 14 (.loadF 1 false 1 false) [.t 13] 10,
 .y 15 (.bin .eql) [.t 12,.t 14] 10,.o 16 .pick [.t 10,.t 15,.b false],.m 17 (.t 16),.y 18 (.fieldAddr 3) [.t 2] 17,
 .y 19 (.loadF 0 false 1 false) [.t 18] 17,.y 20 (.fieldAddr 3) [.t 3] 17,.y 21 (.loadF 1 false 1 false) [.t 20] 17,.y 22 (.bin .eql) [.t 19,.t 21] 17,
 .o 23 .pick [.t 17,.t 22,.b false],.m 24 (.t 23),.y 25 (.fieldAddr 2) [.t 2] 24,.y 26 (.loadF 0 false 1 false) [.t 25] 24,
 .y 27 (.fieldAddr 2) [.t 3] 24,.y 28 (.loadF 1 false 1 false) [.t 27] 24,.y 29 (.call 11) [.T 26,.T 28] 24,.o 30 .pick [.t 24,.t 29,.b false],
 .m 4 (.t 30)] [2,3,5,6,7,8,9,10,11,12,13,14,15,16,17,18,19,20,21,22,23,24,25,26,27,28,29,30]) .ret)) }
def s10:SFunc:={ fid:=10,mode:=.pure,nparams:=1,nboxes:=0,clr:=[],results:=[.tmp 2 false],body:=
 (.seq (.g [.m 2 (.i 0)] [2]) (.seq (.seq (.g [.m 3 (.t 0)] [0]) (.cond (.T 3) [] (.seq (.g [
 .m 2 (.i 1)] []) .ret) [] .skip)) (.seq (.g [.m 2 (.i 0)] []) .ret))) }
def s11_l0:SCode:=
 (.seq (.seq (.g [.m 11 (.t 5),.m 12 (.t 0),.o 13 (.len .sl) [.T 12],.o 14 (.bin .lss) [.t 11,.t 13]] [11,13]) (.cond (.T 14) []
 .skip [0,1,5] (.exit 0))) (.seq (.block 1 (.seq (.r [.m 17 (.t 0),.m 18 (.t 5),.o 19 (.indexAddr 1) [.T 17,.t 18],
 .d 20 (.T 19),.m 21 (.t 1),.m 22 (.t 5),.o 23 (.indexAddr 1) [.T 21,.t 22],.d 24 (.T 23),
 .o 25 (.bin .neq) [.t 20,.t 24]] (some []) [18,20,22,24]) (.cond (.T 25) [0,1,5] (.seq (.g [.m 4 (.b false)] []) .ret) []
 .skip))) (.g [.m 15 (.t 5),.o 16 (.bin .add) [.t 15,.i 1],.m 5 (.t 16)] [15,16])))
def s11:SFunc:={ fid:=11,mode:=.pure,nparams:=2,nboxes:=0,clr:=[],results:=[.tmp 4 false],body:=
 (.seq (.g [.m 4 (.b false)] [4]) (.seq (.seq (.g [.m 6 (.t 0),.o 7 (.len .sl) [.T 6],.m 8 (.t 1),
 .o 9 (.len .sl) [.T 8],.o 10 (.bin .neq) [.t 7,.t 9]] [7,9]) (.cond (.T 10) [0,1] (.seq (.g [.m 4 (.b false)] []) .ret) []
 .skip)) (.seq (.seq (.g [.m 5 (.i 0)] []) (.block 0 (.loop s11_l0))) (.seq (.g [
 .m 4 (.b true)] []) .ret)))) }
def s12:SFunc:={ fid:=12,mode:=.pure,nparams:=1,nboxes:=2,clr:=[],results:=[.tmp 2 false],body:=
 (.seq (.g [.o 1 (.boxF 0 5) [.T 0],.m 2 (.b false)] [2]) (.seq (.seq (.g [.f 4 0 (.t 1),
 .l 5 0 (.t 4),.o 6 (.len .sl) [.T 5],.o 7 (.bin .gtr) [.t 6,.i 12],.m 8 (.t 7),.z 9 (.fieldAddr 1) [.t 1] 8,
 .z 10 (.loadF 0 false 1 false) [.t 9] 8,.z 11 (.len .sl) [.T 10] 8,.z 12 (.bin .gtr) [.t 11,.i 8] 8,
 .o 13 .pick [.t 8,.b true,.t 12],.m 14 (.t 13),.z 15 (.fieldAddr 2) [.t 1] 14,.z 16 (.loadF 0 false 1 false) [.t 15] 14,
 .z 17 (.len .sl) [.T 16] 14,.z 18 (.bin .eql) [.t 17,.i 0] 14,.o 19 .pick [.t 14,.b true,.t 18],.m 20 (.t 19),
 .z 21 (.fieldAddr 2) [.t 1] 20,.z 22 (.loadF 0 false 1 false) [.t 21] 20,.z 23 (.len .sl) [.T 22] 20,.z 24 (.bin .gtr) [.t 23,.i 16] 20,
 .o 25 .pick [.t 20,.b true,.t 24],.m 26 (.t 25),.z 27 (.fieldAddr 3) [.t 1] 26,.z 28 (.loadF 0 false 1 false) [.t 27] 26,
 .z 29 (.len .sl) [.T 28] 26,.z 30 (.bin .gtr) [.t 29,.i 60] 26,.o 31 .pick [.t 26,.b true,.t 30],.m 32 (.t 31),
 .z 33 (.fieldAddr 4) [.t 1] 32,.z 34 (.loadF 0 false 1 false) [.t 33] 32,.z 35 (.bin .lss) [.t 34,.i 0] 32,
 .o 36 .pick [.t 32,.b true,.t 35],.m 37 (.t 36),.z 38 (.fieldAddr 4) [.t 1] 37,.z 39 (.loadF 0 false 1 false) [.t 38] 37,
 .z 40 (.fieldAddr 2) [.t 1] 37,.z 41 (.loadF 0 false 1 false) [.t 40] 37,.z 42 (.len .sl) [.T 41] 37,.z 43 (.bin .geq) [.t 39,.t 42] 37,
 .o 44 .pick [.t 37,.b true,.t 43]] [4,6,7,8,9,10,11,12,13,14,15,16,17,18,19,20,21,22,23,24,25,26,27,28,29,30,31,32,33,34,35,36,37,38,39,40,41,42,43])
 (.cond (.T 44) [1] (.seq (.g [.m 2 (.b false)] []) .ret) [] .skip)) (.seq (.g [.f 45 2 (.t 1),
 .l 46 0 (.t 45),.f 47 4 (.t 1),.l 48 0 (.t 47),.o 49 (.indexAddr 7) [.T 46,.t 48],
 .o 50 (.load true 7 false) [.T 49],.o 3 (.allocF 1 [.i 0,.nilSl,.bool false,.i 0,.i 0,.i 0,.nilSl]) [],
 .n (.storeF 1 7) [.t 3,.T 50]] [45,47,48]) (.seq (.g [.f 51 0 (.t 3),.l 52 1 (.t 51),
 .o 53 (.bin .eql) [.t 52,.i 0],.m 54 (.t 53),.y 55 (.fieldAddr 2) [.t 3] 54,.y 56 (.loadF 1 false 1 false) [.t 55] 54,
 .y 57 (.un .not) [.t 56] 54,.o 58 .pick [.t 54,.t 57,.b false],.m 59 (.t 58),.y 60 (.loadF 0 true 5 false) [.t 1] 59,
 .y 61 (.call 18) [.T 60] 59,.o 62 .pick [.t 59,.t 61,.b false],.m 63 (.t 62),.y 64 (.loadF 0 true 5 false) [.t 1] 63,
 .y 65 (.fieldAddr 1) [.t 1] 63,.y 66 (.loadF 0 false 1 false) [.t 65] 63,.y 67 (.call 19) [.T 64,.T 66] 63,.o 68 .pick [.t 63,.t 67,.b false],
 .m 69 (.t 68),.y 70 (.loadF 0 true 5 false) [.t 1] 69,.y 71 (.call 20) [.T 70] 69,.o 72 .pick [.t 69,.t 71,.b false],
 .m 73 (.t 72),.y 74 (.loadF 0 true 5 false) [.t 1] 73,.y 75 (.call 21) [.T 74] 73,.o 76 .pick [.t 73,.t 75,.b false],
 .m 2 (.t 76)] [1,3,51,52,53,54,55,56,57,58,59,60,61,62,63,64,65,66,67,68,69,70,71,72,73,74,75,76]) .ret)))) }
def s13:SFunc:={ fid:=13,mode:=.opn,nparams:=0,nboxes:=0,clr:=[],results:=[.tmp 0 false],body:=
 (.seq (.g [.o 0 .move [.const .nilPtr]] [0]) (.seq (.g [.o 1 (.build [.nilSl] []) [],.o 2 (.box 1) [.T 1],.m 0 (.t 2)] [2])
 .ret)) }
def s14:SFunc:={ fid:=14,mode:=.opn,nparams:=0,nboxes:=0,clr:=[],results:=[.tmp 0 false],body:=
 (.seq (.g [.o 0 .move [.const .nilMap]] [0]) (.seq (.g [.o 1 .makeMap [],
 .n (.mapUpdate .int) [.t 1,.i 1,.const (.fn 22 [] [])],.n (.mapUpdate .int) [.t 1,.i 2,.const (.fn 23 [] [])],
 .n (.mapUpdate .int) [.t 1,.i 3,.const (.fn 24 [] [])],.n (.mapUpdate .int) [.t 1,.i 4,.const (.fn 25 [] [])],
 .n (.mapUpdate .int) [.t 1,.i 5,.const (.fn 26 [] [])],.n (.mapUpdate .int) [.t 1,.i 6,.const (.fn 27 [] [])],
 .n (.mapUpdate .int) [.t 1,.i 7,.const (.fn 28 [] [])],.n (.mapUpdate .int) [.t 1,.i 8,.const (.fn 29 [] [])],
 .n (.mapUpdate .int) [.t 1,.i 9,.const (.fn 30 [] [])],.n (.mapUpdate .int) [.t 1,.i 10,.const (.fn 31 [] [])],
 .n (.mapUpdate .int) [.t 1,.i 11,.const (.fn 32 [] [])],.n (.mapUpdate .int) [.t 1,.i 12,.const (.fn 33 [] [])],
 .n (.mapUpdate .int) [.t 1,.i 13,.const (.fn 34 [] [])],.n (.mapUpdate .int) [.t 1,.i 14,.const (.fn 35 [] [])],
 .n (.mapUpdate .int) [.t 1,.i 15,.const (.fn 36 [] [])],.n (.mapUpdate .int) [.t 1,.i 16,.const (.fn 37 [] [])],
 .n (.mapUpdate .int) [.t 1,.i 17,.const (.fn 38 [] [])],.n (.mapUpdate .int) [.t 1,.i 18,.const (.fn 39 [] [])],
 .n (.mapUpdate .int) [.t 1,.i 19,.const (.fn 40 [] [])],.n (.mapUpdate .int) [.t 1,.i 20,.const (.fn 41 [] [])],
 .m 2 (.t 1),.m 0 (.t 2)] [1,2]) .ret)) }
def s15_l0:SCode:=
 (.seq (.g [.o 47 (.bin .lss) [.t 46,.t 45]] []) (.seq (.cond (.T 47) [] .skip [44,45,46] (.exit 0)) (.seq (.block 1 (.seq (.g [
 .o 48 (.indexAddr 4) [.t 44,.t 46],.o 49 (.load true 4 false) [.T 48],.o 8 (.allocF 2 [.str [],.i 0,.i 0,.i 0]) [],
 .n (.storeF 2 4) [.t 8,.t 49]] [49]) (.g [.m 50 (.T 6),.f 51 1 (.t 8),.o 52 (.loadF 2 true 3 false) [.t 51],
 .o 53 (.lit 3 1 [.i 0,.i 0,.i 0] [0]) [.t 52],.o 54 (.append 3 24) [.T 50,.T 53],.m 6 (.T 54)] [8,51,52]))) (.g [
 .o 55 (.bin .add) [.t 46,.i 1],.m 46 (.t 55)] [55]))))
def s15:SFunc:={ fid:=15,mode:=.pure,nparams:=2,nboxes:=3,clr:=[],results:=[.tmp 4 true],body:=
 (.seq (.g [.o 2 (.boxF 0 5) [.T 0],.o 4 .move [.const .nilSl]] [4]) (.seq (.seq (.g [.o 9 (.loadF 0 true 5 false) [.t 2],
 .c 10 12 [.T 9],.o 11 (.un .not) [.t 10],.m 12 (.t 11),.z 13 .move [.t 1] 12,.z 14 (.bin .lss) [.t 13,.i 0] 12,
 .o 15 .pick [.t 12,.b true,.t 14],.m 16 (.t 15),.z 17 .move [.t 1] 16,.z 18 (.fieldAddr 3) [.t 2] 16,
 .z 19 (.loadF 0 false 1 false) [.t 18] 16,.z 20 (.len .sl) [.T 19] 16,.z 21 (.bin .geq) [.t 17,.t 20] 16,
 .o 22 .pick [.t 16,.b true,.t 21]] [10,11,12,13,14,15,16,17,18,19,20,21]) (.cond (.T 22) [1,2] (.seq (.g [
 .o 4 .move [.const .nilSl]] []) .ret) [] .skip)) (.seq (.g [.f 23 3 (.t 2),.l 24 0 (.t 23),
 .m 25 (.t 1),.o 26 (.indexAddr 4) [.T 24,.t 25],.f 27 1 (.T 26),.o 28 (.load true 3 false) [.T 27],
 .o 5 (.allocF 1 [.i 0,.i 0,.i 0]) [],.n (.storeF 1 3) [.t 5,.t 28]] [1,23,25,28]) (.seq (.seq (.g [
 .f 29 2 (.t 5),.l 30 1 (.t 29),.o 31 (.bin .gtr) [.t 30,.i 0]] [29,30]) (.cond (.T 31) [2] (.seq
 (.g [.f 32 2 (.t 5),.l 33 1 (.t 32),.o 34 (.bin .sub) [.t 33,.i 1],.f 35 2 (.t 5),
 .n (.storeF 1 1) [.t 35,.t 34]] [32,33,34,35]) (.seq (.g [.o 36 (.loadF 1 true 3 false) [.t 5],
 .o 37 (.lit 3 1 [.i 0,.i 0,.i 0] [0]) [.t 36],.m 4 (.T 37)] [5,36]) .ret)) [] .skip)) (.seq (.g [
 .o 6 .move [.const .nilSl]] []) (.seq (.seq (.g [.f 38 0 (.t 2),.l 39 0 (.t 38),.f 40 1 (.t 5),
 .l 41 1 (.t 40),.o 42 (.indexAddr 2) [.T 39,.t 41],.f 43 1 (.T 42),.d 44 (.T 43),
 .o 45 (.len .sl) [.t 44],.m 46 (.i 0)] [2,5,38,40,41]) (.block 0 (.loop s15_l0))) (.seq (.g [.m 56 (.T 6),
 .m 4 (.T 56)] []) .ret))))))) }
def s16:SFunc:={ fid:=16,mode:=.opn,nparams:=3,nboxes:=0,clr:=[],results:=[.tmp 6 false],body:=
 (.seq (.g [.o 6 .move [.const .nilPtr]] [6]) (.seq (.g [.m 7 (.t 1),.m 8 (.t 0),.o 9 .nilCheck [.t 8],
 .f 10 0 (.T 9),.f 11 2 (.T 10),.d 12 (.T 11),.m 13 (.t 1),.o 14 (.indexAddr 7) [.T 12,.t 13],
 .f 15 1 (.T 14),.d 16 (.T 15),.o 17 (.len .sl) [.T 16],.o 18 (.makeSl 1 8 [.i 0] true) [.t 17,.t 17],
 .m 19 (.t 2),.o 20 (.build [.i 0,.i 0,.nilSl,.i 0] [(0,1),(2,1),(3,1)]) [.t 7,.T 18,.t 19],.o 21 (.box 4) [.T 20],
 .m 6 (.t 21)] [0,1,2,7,8,13,17,19,21]) .ret)) }
def s17:SFunc:={ fid:=17,mode:=.opn,nparams:=1,nboxes:=0,clr:=[],results:=[.tmp 2 false],body:=
 (.seq (.g [.o 2 .move [.const .nilPtr]] [2]) (.seq (.r [.m 3 (.t 0),.o 4 .nilCheck [.t 3],.f 5 9 (.T 4),
 .d 6 (.T 5),.m 7 (.t 0),.o 8 .nilCheck [.t 7],.f 9 9 (.T 8),.d 10 (.T 9),
 .o 11 (.len .sl) [.T 10],.o 12 (.bin .sub) [.t 11,.i 1],.o 13 (.indexAddr 1) [.T 6,.t 12],.d 14 (.T 13),
 .m 2 (.t 14)] (some []) [0,3,7,11,12,14]) .ret)) }
def s18_l0:SCode:=
 (.seq (.g [.o 22 (.bin .lss) [.t 21,.t 20]] []) (.seq (.cond (.T 22) [] .skip [19,20,21] (.exit 2)) (.seq (.block 3 (.seq (.g [
 .o 23 (.indexAddr 4) [.t 19,.t 21],.o 24 (.load true 4 false) [.T 23],.o 6 (.allocF 2 [.str [],.i 0,.i 0,.i 0]) [],
 .n (.storeF 2 4) [.t 6,.t 24]] [24]) (.seq (.g [.o 25 (.loadF 0 true 5 false) [.t 1],.f 26 1 (.t 6),
 .o 27 (.loadF 2 true 3 false) [.t 26],.c 28 42 [.T 25,.t 27],.o 29 (.un .not) [.t 28]] [6,26,27,28]) (.cond (.T 29) [1,8,9,10,19,20,21] (.seq
 (.g [.m 2 (.b false)] []) .ret) [] .skip)))) (.g [.o 30 (.bin .add) [.t 21,.i 1],
 .m 21 (.t 30)] [30]))))
def s18_l1:SCode:=
 (.seq (.g [.o 11 (.bin .lss) [.t 10,.t 9]] []) (.seq (.cond (.T 11) [] .skip [1,8,9,10] (.exit 0)) (.seq (.block 1 (.seq (.g [
 .o 12 (.indexAddr 2) [.t 8,.t 10],.o 13 (.load true 2 false) [.T 12],.o 4 (.allocF 1 [.str [],.nilSl]) [],.n (.storeF 1 2) [.t 4,.T 13]] []) (.seq
 (.seq (.g [.f 14 1 (.t 4),.l 15 1 (.t 14),.o 16 (.len .sl) [.T 15],
 .o 17 (.bin .gtr) [.t 16,.i 8]] [14,16]) (.cond (.T 17) [1,4,8,9,10] (.seq (.g [.m 2 (.b false)] [])
 .ret) [] .skip)) (.seq (.g [.f 18 1 (.t 4),.l 19 1 (.t 18),.o 20 (.len .sl) [.t 19],
 .m 21 (.i 0)] [4,18]) (.block 2 (.loop s18_l0)))))) (.g [.o 31 (.bin .add) [.t 10,.i 1],
 .m 10 (.t 31)] [31]))))
def s18:SFunc:={ fid:=18,mode:=.pure,nparams:=1,nboxes:=3,clr:=[],results:=[.tmp 2 false],body:=
 (.seq (.g [.o 1 (.boxF 0 5) [.T 0],.m 2 (.b false)] [2]) (.seq (.seq (.g [.f 7 0 (.t 1),
 .l 8 0 (.t 7),.o 9 (.len .sl) [.t 8],.m 10 (.i 0)] [7]) (.block 0 (.loop s18_l1))) (.seq (.g [
 .m 2 (.b true)] []) .ret))) }
def s19_l0:SCode:=
 (.seq (.g [.o 10 (.bin .lss) [.t 9,.t 8]] []) (.seq (.cond (.T 10) [] .skip [2,7,8,9] (.exit 0)) (.seq (.block 1 (.seq (.g [
 .o 11 (.indexAddr 3) [.t 7,.t 9],.o 12 (.load true 3 false) [.T 11],.o 6 (.allocF 1 [.i 0,.i 0,.i 0]) [],
 .n (.storeF 1 3) [.t 6,.t 12]] [12]) (.seq (.g [.o 13 (.loadF 0 true 5 false) [.t 2],.o 14 (.loadF 1 true 3 false) [.t 6],
 .c 15 42 [.T 13,.t 14],.o 16 (.un .not) [.t 15]] [6,14,15]) (.cond (.T 16) [2,7,8,9] (.seq (.g [
 .m 4 (.b false)] []) .ret) [] .skip)))) (.g [.o 17 (.bin .add) [.t 9,.i 1],.m 9 (.t 17)] [17]))))
def s19:SFunc:={ fid:=19,mode:=.pure,nparams:=2,nboxes:=2,clr:=[],results:=[.tmp 4 false],body:=
 (.seq (.g [.o 2 (.boxF 0 5) [.T 0],.m 4 (.b false)] [4]) (.seq (.seq (.g [.m 7 (.T 1),.o 8 (.len .sl) [.t 7],
 .m 9 (.i 0)] []) (.block 0 (.loop s19_l0))) (.seq (.g [.m 4 (.b true)] []) .ret))) }
def s20_l0:SCode:=
 (.seq (.g [.o 9 (.bin .lss) [.t 8,.t 7]] []) (.seq (.cond (.T 9) [] .skip [1,6,7,8] (.exit 0)) (.seq (.block 1 (.seq (.g [
 .o 10 (.indexAddr 4) [.t 6,.t 8],.o 11 (.load true 4 false) [.T 10],.o 4 (.allocF 1 [.i 0,.i 0,.i 0,.i 0]) [],
 .n (.storeF 1 4) [.t 4,.t 11]] [11]) (.seq (.g [.o 12 (.loadF 0 true 5 false) [.t 1],.f 13 1 (.t 4),
 .o 14 (.loadF 1 true 3 false) [.t 13],.c 15 42 [.T 12,.t 14],.o 16 (.un .not) [.t 15],.m 17 (.t 16),.z 18 (.fieldAddr 1) [.t 4] 17,
 .z 19 (.loadF 1 true 3 false) [.t 18] 17,.z 20 (.call 43) [.t 19] 17,.z 21 (.un .not) [.t 20] 17,.o 22 .pick [.t 17,.b true,.t 21],
 .m 23 (.t 22),.z 24 (.fieldAddr 0) [.t 4] 23,.z 25 (.loadF 1 false 1 false) [.t 24] 23,.z 26 (.bin .lss) [.t 25,.i 0] 23,
 .o 27 .pick [.t 23,.b true,.t 26],.m 28 (.t 27),.z 29 (.fieldAddr 0) [.t 4] 28,.z 30 (.loadF 1 false 1 false) [.t 29] 28,
 .z 31 (.fieldAddr 2) [.t 1] 28,.z 32 (.loadF 0 false 1 false) [.t 31] 28,.z 33 (.len .sl) [.T 32] 28,.z 34 (.bin .geq) [.t 30,.t 33] 28,
 .o 35 .pick [.t 28,.b true,.t 34]] [4,13,14,15,16,17,18,19,20,21,22,23,24,25,26,27,28,29,30,31,32,33,34]) (.cond (.T 35) [1,6,7,8] (.seq
 (.g [.m 2 (.b false)] []) .ret) [] .skip)))) (.g [.o 36 (.bin .add) [.t 8,.i 1],
 .m 8 (.t 36)] [36]))))
def s20:SFunc:={ fid:=20,mode:=.pure,nparams:=1,nboxes:=2,clr:=[],results:=[.tmp 2 false],body:=
 (.seq (.g [.o 1 (.boxF 0 5) [.T 0],.m 2 (.b false)] [2]) (.seq (.seq (.g [.f 5 3 (.t 1),
 .l 6 0 (.t 5),.o 7 (.len .sl) [.t 6],.m 8 (.i 0)] [5]) (.block 0 (.loop s20_l0))) (.seq (.g [
 .m 2 (.b true)] []) .ret))) }
def s21_l0:SCode:=
 (.seq (.g [.o 10 (.bin .lss) [.t 9,.t 8]] []) (.seq (.cond (.T 10) [] .skip [1,3,7,8,9] (.exit 0)) (.seq (.block 1 (.seq (.g [
 .m 11 (.t 9),.o 12 (.indexAddr 7) [.t 7,.t 9],.o 13 (.load true 7 false) [.T 12],
 .o 5 (.allocF 1 [.i 0,.nilSl,.bool false,.i 0,.i 0,.i 0,.nilSl]) [],.m 4 (.t 11),.n (.storeF 1 7) [.t 5,.T 13]] [11])
 (.seq (.g [.m 14 (.t 3),.f 15 6 (.t 5),.l 16 1 (.t 15),.o 17 (.len .sl) [.T 16],
 .o 18 (.bin .add) [.t 14,.t 17],.m 3 (.t 18)] [5,14,15,17,18]) (.seq (.g [.m 19 (.t 3),
 .o 20 (.bin .gtr) [.t 19,.i 2500],.m 21 (.t 20),.z 22 (.loadF 0 true 5 false) [.t 1] 21,.z 23 .move [.t 4] 21,
 .z 24 (.call 44) [.T 22,.t 23] 21,.z 25 (.un .not) [.t 24] 21,.o 26 .pick [.t 21,.b true,.t 25]] [4,19,20,21,22,23,24,25])
 (.cond (.T 26) [1,3,7,8,9] (.seq (.g [.m 2 (.b false)] []) .ret) [] .skip))))) (.g [
 .o 27 (.bin .add) [.t 9,.i 1],.m 9 (.t 27)] [27]))))
def s21:SFunc:={ fid:=21,mode:=.pure,nparams:=1,nboxes:=2,clr:=[],results:=[.tmp 2 false],body:=
 (.seq (.g [.o 1 (.boxF 0 5) [.T 0],.m 2 (.b false)] [2]) (.seq (.g [.m 3 (.i 0)] []) (.seq
 (.seq (.g [.f 6 2 (.t 1),.l 7 0 (.t 6),.o 8 (.len .sl) [.t 7],.m 9 (.i 0)] [6])
 (.block 0 (.loop s21_l0))) (.seq (.g [.m 2 (.b true)] []) .ret)))) }
def s22:SFunc:={ fid:=22,mode:=.scp,nparams:=2,nboxes:=1,clr:=[],results:=[],body:=
 (.seq (.g [.o 3 (.boxF 0 6) [.T 1]] []) (.g [.m 4 (.t 0),.f 5 1 (.t 3),.l 6 0 (.t 5),
 .f 7 4 (.t 3),.l 8 0 (.t 7),.c 9 45 [.t 4,.t 6,.t 8]] [0,3,4,5,6,7,8,9])) }
def s23:SFunc:={ fid:=23,mode:=.scp,nparams:=2,nboxes:=1,clr:=[],results:=[],body:=
 (.seq (.g [.o 3 (.boxF 0 6) [.T 1]] []) (.g [.m 4 (.t 0),.f 5 1 (.t 3),.l 6 0 (.t 5),
 .c 7 45 [.t 4,.t 6,.i 0]] [0,3,4,5,6,7])) }
def s24:SFunc:={ fid:=24,mode:=.scp,nparams:=2,nboxes:=1,clr:=[],results:=[],body:=
 (.seq (.g [.o 3 (.boxF 0 6) [.T 1]] []) (.r [.m 4 (.t 0),.f 5 1 (.t 3),.l 6 0 (.t 5),
 .m 7 (.t 0),.f 8 2 (.t 3),.l 9 0 (.t 8),.c 10 46 [.t 7,.t 9],
 .c 11 45 [.t 4,.t 6,.t 10]] (some []) [0,3,4,5,6,7,8,9,10,11])) }
def s25:SFunc:={ fid:=25,mode:=.scp,nparams:=2,nboxes:=1,clr:=[],results:=[],body:=
 (.seq (.g [.o 3 (.boxF 0 6) [.T 1]] []) (.r [.m 4 (.t 0),.f 5 1 (.t 3),.l 6 0 (.t 5),
 .c 7 47 [.t 4,.t 6],.f 8 4 (.t 3),.l 9 0 (.t 8),.m 10 (.t 0),.f 11 2 (.t 3),
 .l 12 0 (.t 11),.c 13 46 [.t 10,.t 12],.m 14 (.t 0),.f 15 3 (.t 3),
 .l 16 0 (.t 15),.c 17 46 [.t 14,.t 16],.c 18 48 [.t 9,.t 13,.t 17],.o 19 (.extract 0) [.t 18],
 .o 20 (.extract 1) [.t 18],.o 21 .callV [.t 7,.t 19,.t 20]] (some []) [0,3,4,5,6,7,8,9,10,11,12,13,14,15,16,17,18,19,20,21])) }
def s26:SFunc:={ fid:=26,mode:=.scp,nparams:=2,nboxes:=1,clr:=[],results:=[],body:=
 (.seq (.g [.o 3 (.boxF 0 6) [.T 1]] []) (.r [.m 4 (.t 0),.f 5 1 (.t 3),.l 6 0 (.t 5),
 .f 7 4 (.t 3),.l 8 0 (.t 7),.m 9 (.t 0),.f 10 2 (.t 3),.l 11 0 (.t 10),
 .c 12 46 [.t 9,.t 11],.c 13 49 [.t 8,.t 12],.c 14 45 [.t 4,.t 6,.t 13]] (some []) [0,3,4,5,6,7,8,9,10,11,12,13,14])) }
def s27:SFunc:={ fid:=27,mode:=.scp,nparams:=2,nboxes:=1,clr:=[],results:=[],body:=
 (.seq (.g [.o 3 (.boxF 0 6) [.T 1]] []) (.r [.m 4 (.t 0),.f 5 1 (.t 3),.l 6 0 (.t 5),
 .c 7 47 [.t 4,.t 6],.m 8 (.t 0),.o 9 .nilCheck [.t 8],.f 10 6 (.T 9),.d 11 (.T 10),.m 12 (.t 0),
 .f 13 2 (.t 3),.l 14 0 (.t 13),.c 15 46 [.t 12,.t 14],.f 16 3 (.t 3),
 .l 17 0 (.t 16),.c 18 50 [.t 11,.t 15,.t 17],.o 19 (.extract 0) [.t 18],.o 20 (.extract 1) [.t 18],
 .o 21 .callV [.t 7,.t 19,.t 20]] (some [(7,3),(7,11)]) [0,3,4,5,6,7,8,11,12,13,14,15,16,17,18,19,20,21])) }
def s28:SFunc:={ fid:=28,mode:=.scp,nparams:=2,nboxes:=1,clr:=[],results:=[],body:=
 (.seq (.g [.o 3 (.boxF 0 6) [.T 1]] []) (.r [.m 4 (.t 0),.m 5 (.t 0),.o 6 .nilCheck [.t 5],.f 7 6 (.T 6),
 .d 8 (.T 7),.m 9 (.t 0),.f 10 1 (.t 3),.l 11 0 (.t 10),.c 12 46 [.t 9,.t 11],
 .f 13 3 (.t 3),.l 14 0 (.t 13),.m 15 (.t 0),.f 16 2 (.t 3),.l 17 0 (.t 16),
 .c 18 46 [.t 15,.t 17],.c 19 52 [.t 8,.t 12,.t 14,.t 18],
 .c 20 51 [.t 4,.t 19]] (some [(4,8),(4,14)]) [0,3,4,5,8,9,10,11,12,13,14,15,16,17,18,19,20])) }
def s29:SFunc:={ fid:=29,mode:=.scp,nparams:=2,nboxes:=1,clr:=[],results:=[],body:=
 (.seq (.g [.o 3 (.boxF 0 6) [.T 1]] []) (.r [.m 4 (.t 0),.f 5 1 (.t 3),.l 6 0 (.t 5),
 .c 7 47 [.t 4,.t 6],.m 8 (.t 0),.o 9 .nilCheck [.t 8],.f 10 6 (.T 9),.d 11 (.T 10),.m 12 (.t 0),
 .f 13 2 (.t 3),.l 14 0 (.t 13),.c 15 46 [.t 12,.t 14],.m 16 (.t 0),.f 17 3 (.t 3),
 .l 18 0 (.t 17),.c 19 46 [.t 16,.t 18],.c 20 50 [.t 11,.t 15,.t 19],.o 21 (.extract 0) [.t 20],
 .o 22 (.extract 1) [.t 20],.o 23 .callV [.t 7,.t 21,.t 22]] (some [(7,3),(7,11),(7,15)]) [0,3,4,5,6,7,8,11,12,13,14,15,16,17,18,19,20,21,22,23])) }
def s30:SFunc:={ fid:=30,mode:=.scp,nparams:=2,nboxes:=1,clr:=[],results:=[],body:=
 (.seq (.g [.o 3 (.boxF 0 6) [.T 1]] []) (.r [.m 4 (.t 0),.m 5 (.t 0),.o 6 .nilCheck [.t 5],.f 7 6 (.T 6),
 .d 8 (.T 7),.m 9 (.t 0),.f 10 1 (.t 3),.l 11 0 (.t 10),.c 12 46 [.t 9,.t 11],
 .m 13 (.t 0),.f 14 2 (.t 3),.l 15 0 (.t 14),.c 16 46 [.t 13,.t 15],.m 17 (.t 0),
 .f 18 3 (.t 3),.l 19 0 (.t 18),.c 20 46 [.t 17,.t 19],.c 21 52 [.t 8,.t 12,.t 16,.t 20],
 .c 22 51 [.t 4,.t 21]] (some [(4,8),(4,12),(4,16)]) [0,3,4,5,8,9,10,11,12,13,14,15,16,17,18,19,20,21,22])) }
def s31:SFunc:={ fid:=31,mode:=.scp,nparams:=2,nboxes:=1,clr:=[],results:=[],body:=
 (.seq (.g [.o 3 (.boxF 0 6) [.T 1]] []) (.r [.m 4 (.t 0),.f 5 1 (.t 3),.l 6 0 (.t 5),
 .c 7 47 [.t 4,.t 6],.m 8 (.t 0),.o 9 .nilCheck [.t 8],.f 10 6 (.T 9),.d 11 (.T 10),.m 12 (.t 0),
 .f 13 2 (.t 3),.l 14 0 (.t 13),.c 15 46 [.t 12,.t 14],.c 16 53 [.t 11,.t 15],
 .o 17 (.extract 0) [.t 16],.o 18 (.extract 1) [.t 16],.o 19 .callV [.t 7,.t 17,.t 18]] (some [(7,3),(7,11)]) [0,3,4,5,6,7,8,11,12,13,14,15,16,17,18,19])) }
def s32:SFunc:={ fid:=32,mode:=.opn,nparams:=2,nboxes:=1,clr:=[],results:=[],body:=
 (.seq (.g [.o 3 (.boxF 0 6) [.T 1]] []) (.r [.m 4 (.t 0),.f 5 1 (.t 3),.l 6 0 (.t 5),
 .m 7 (.t 0),.o 8 .nilCheck [.t 7],.f 9 6 (.T 8),.d 10 (.T 9),.m 11 (.t 0),.o 12 .nilCheck [.t 11],
 .f 13 5 (.T 12),.d 14 (.T 13),.f 15 4 (.t 3),.l 16 0 (.t 15),
 .o 17 (.indexAddr 1) [.T 14,.t 16],.d 18 (.T 17),.c 19 54 [.t 10,.t 18],
 .c 20 45 [.t 4,.t 6,.t 19]] (some []) [0,3,4,5,6,7,10,11,15,16,18,19,20])) }
def s33:SFunc:={ fid:=33,mode:=.opn,nparams:=2,nboxes:=1,clr:=[],results:=[],body:=
 (.seq (.g [.o 3 (.boxF 0 6) [.T 1]] []) (.r [.m 4 (.t 0),.f 5 1 (.t 3),.l 6 0 (.t 5),
 .c 7 47 [.t 4,.t 6],.m 8 (.t 0),.o 9 .nilCheck [.t 8],.f 10 6 (.T 9),.d 11 (.T 10),.m 12 (.t 0),
 .f 13 2 (.t 3),.l 14 0 (.t 13),.c 15 46 [.t 12,.t 14],.c 16 55 [.t 11,.t 15],
 .o 17 (.extract 0) [.t 16],.o 18 (.extract 1) [.t 16],.o 19 .callV [.t 7,.t 17,.t 18]] (some [(7,3),(7,11)]) [0,3,4,5,6,7,8,11,12,13,14,15,16,17,18,19])) }
def s34:SFunc:={ fid:=34,mode:=.opn,nparams:=2,nboxes:=1,clr:=[],results:=[],body:=
 (.seq (.g [.o 3 (.boxF 0 6) [.T 1]] []) (.seq (.seq (.g [.m 5 (.t 0),.o 6 .nilCheck [.t 5],.f 7 9 (.T 6),
 .d 8 (.T 7),.o 9 (.len .sl) [.T 8],.o 10 (.bin .geq) [.t 9,.i 40]] [5,9]) (.cond (.T 10) [3] (.seq (.g [
 .m 11 (.t 0),.c 12 51 [.t 11,.i 6]] [0,11,12]) .ret) [] .skip)) (.seq (.g [.m 13 (.t 0),
 .f 14 3 (.t 3),.l 15 0 (.t 14),.f 16 1 (.t 3),.l 17 0 (.t 16),
 .c 18 16 [.t 13,.t 15,.t 17],.m 4 (.t 18)] [13,14,15,16,17,18]) (.seq (.r [.m 19 (.t 4),.o 20 .nilCheck [.t 19],
 .f 21 2 (.T 20),.d 22 (.T 21),.f 23 5 (.t 3),.l 24 0 (.t 23),.m 25 (.t 0),
 .o 26 (.makeFunc 46 1) [.t 25],.c 27 56 [.T 24,.t 26],.o 28 (.copy 1) [.T 22,.T 27]] (some [(3,8)]) [3,19,23,25,26,28]) (.g [
 .m 29 (.t 0),.m 30 (.t 0),.o 31 .nilCheck [.t 30],.f 32 9 (.T 31),.d 33 (.T 32),.m 34 (.t 4),
 .o 35 (.litM 1 1 [.nilPtr] [0]) [.t 34],.o 36 (.appendM 1 8) [.T 33,.T 35],.o 37 .nilCheck [.t 29],.f 38 9 (.T 37),
 .n (.store 1) [.T 38,.T 36]] [0,4,29,30,34]))))) }
def s35:SFunc:={ fid:=35,mode:=.scp,nparams:=2,nboxes:=1,clr:=[],results:=[],body:=
 (.seq (.g [.o 3 (.boxF 0 6) [.T 1]] []) (.seq (.seq (.g [.m 4 (.t 0),.o 5 .nilCheck [.t 4],.f 6 7 (.T 5),
 .d 7 (.T 6),.o 8 (.len .sl) [.T 7],.o 9 (.bin .eql) [.t 8,.i 0]] [4,8]) (.cond (.T 9) [3] (.seq (.g [
 .m 10 (.t 0),.c 11 51 [.t 10,.i 5]] [0,10,11]) .ret) [] .skip)) (.seq (.r [.m 12 (.t 0),
 .f 13 1 (.t 3),.l 14 0 (.t 13),.m 15 (.t 0),.o 16 .nilCheck [.t 15],.f 17 7 (.T 16),
 .d 18 (.T 17),.o 19 (.indexAddr 1) [.T 18,.i 0],.d 20 (.T 19),
 .c 21 45 [.t 12,.t 14,.t 20]] (some []) [3,12,13,14,15,20,21]) (.g [.m 22 (.t 0),.m 23 (.t 0),.o 24 .nilCheck [.t 23],
 .f 25 7 (.T 24),.d 26 (.T 25),.o 27 (.slice false true false false 1) [.T 26,.i 1],
 .o 28 .nilCheck [.t 22],.f 29 7 (.T 28),.n (.store 1) [.T 29,.T 27]] [0,22,23])))) }
def s36:SFunc:={ fid:=36,mode:=.opn,nparams:=2,nboxes:=1,clr:=[],results:=[],body:=
 (.seq (.g [.o 3 (.boxF 0 6) [.T 1]] []) (.r [.m 4 (.t 0),.m 5 (.t 0),.o 6 .nilCheck [.t 5],.f 7 11 (.T 6),
 .f 8 2 (.T 7),.d 9 (.T 8),.m 10 (.t 0),.f 11 1 (.t 3),.l 12 0 (.t 11),
 .c 13 46 [.t 10,.t 12],.o 14 (.lit 1 1 [.i 0] [0]) [.t 13],.o 15 (.appendM 1 8) [.T 9,.T 14],.o 16 .nilCheck [.t 4],
 .f 17 11 (.T 16),.f 18 2 (.T 17),.n (.store 1) [.T 18,.T 15]] (some [(5,9)]) [0,3,4,5,10,11,12,13])) }
def s37:SFunc:={ fid:=37,mode:=.scp,nparams:=2,nboxes:=1,clr:=[],results:=[],body:=
 (.seq (.g [.o 3 (.boxF 0 6) [.T 1]] []) (.r [.m 4 (.t 0),.c 5 17 [.t 4],.f 6 4 (.t 3),
 .l 7 0 (.t 6),.o 8 .nilCheck [.t 5],.f 9 1 (.T 8),.n (.store 1) [.T 9,.t 7]] (some []) [0,3,4,5,6,7])) }
def s38:SFunc:={ fid:=38,mode:=.scp,nparams:=2,nboxes:=1,clr:=[],results:=[],body:=
 (.seq (.g [.o 3 (.boxF 0 6) [.T 1]] []) (.seq (.seq (.g [.m 4 (.t 0),.f 5 1 (.t 3),.l 6 0 (.t 5),
 .c 7 46 [.t 4,.t 6],.o 8 (.bin .neq) [.t 7,.i 0]] [4,5,6,7]) (.cond (.T 8) [] (.seq (.r [.m 9 (.t 0),
 .c 10 17 [.t 9],.f 11 4 (.t 3),.l 12 0 (.t 11),.o 13 .nilCheck [.t 10],.f 14 1 (.T 13),
 .n (.store 1) [.T 14,.t 12]] (some []) [0,3,9,10,11,12]) .ret) [] .skip)) (.r [.m 15 (.t 0),.c 16 17 [.t 15],
 .f 17 3 (.t 3),.l 18 0 (.t 17),.o 19 .nilCheck [.t 16],.f 20 1 (.T 19),
 .n (.store 1) [.T 20,.t 18]] (some []) [0,3,15,16,17,18]))) }
def s39:SFunc:={ fid:=39,mode:=.opn,nparams:=2,nboxes:=1,clr:=[],results:=[],body:=
 (.seq (.g [.o 3 (.boxF 0 6) [.T 1]] []) (.seq (.g [.m 6 (.t 0),.c 7 17 [.t 6],.m 4 (.t 7),
 .m 5 (.i 0)] [6,7]) (.seq (.seq (.g [.f 8 1 (.t 3),.l 9 0 (.t 8),
 .o 10 (.bin .geq) [.t 9,.i 0]] [8,9]) (.cond (.T 10) [5] (.g [.m 11 (.t 0),.f 12 1 (.t 3),
 .l 13 0 (.t 12),.c 14 46 [.t 11,.t 13],.m 5 (.t 14)] [3,11,12,13,14]) [3] .skip)) (.seq (.r [
 .m 15 (.t 0),.m 16 (.t 0),.o 17 .nilCheck [.t 16],.f 18 9 (.T 17),.d 19 (.T 18),.m 20 (.t 0),
 .o 21 .nilCheck [.t 20],.f 22 9 (.T 21),.d 23 (.T 22),.o 24 (.len .sl) [.T 23],
 .o 25 (.bin .sub) [.t 24,.i 1],.o 26 (.sliceM 1) [.T 19,.t 25],.o 27 .nilCheck [.t 15],.f 28 9 (.T 27),
 .n (.store 1) [.T 28,.T 26]] (some []) [15,16,20,24,25]) (.block 0 (.seq (.g [.m 30 (.t 0),.o 31 .nilCheck [.t 30],.f 32 9 (.T 31),
 .d 33 (.T 32),.o 34 (.len .sl) [.T 33],.o 35 (.bin .eql) [.t 34,.i 0],.m 29 (.t 35)] [30,34,35])
 (.cond (.T 29) [4,5] (.g [.m 36 (.t 0),.o 37 .nilCheck [.t 36],.f 38 11 (.T 37),.f 39 0 (.T 38),
 .n (.store 1) [.T 39,.i 1]] [0,36]) [] (.seq (.g [.m 41 (.t 4),.o 42 .nilCheck [.t 41],.f 43 3 (.T 42),
 .d 44 (.T 43),.o 45 (.bin .geq) [.t 44,.i 0],.m 40 (.t 45)] [41,44,45]) (.cond (.T 40) [] (.g [
 .m 46 (.t 0),.m 47 (.t 4),.o 48 .nilCheck [.t 47],.f 49 3 (.T 48),.d 50 (.T 49),.m 51 (.t 5),
 .c 52 45 [.t 46,.t 50,.t 51]] [0,4,5,46,47,50,51,52]) [0,4,5] .skip))))))))) }
def s40:SFunc:={ fid:=40,mode:=.scp,nparams:=2,nboxes:=1,clr:=[],results:=[],body:=
 (.seq (.g [.o 3 (.boxF 0 6) [.T 1]] []) (.r [.m 4 (.t 0),.f 5 1 (.t 3),.l 6 0 (.t 5),
 .m 7 (.t 0),.o 8 .nilCheck [.t 7],.f 9 8 (.T 8),.d 10 (.T 9),.f 11 4 (.t 3),
 .l 12 0 (.t 11),.o 13 (.indexAddr 1) [.T 10,.t 12],.d 14 (.T 13),
 .c 15 45 [.t 4,.t 6,.t 14]] (some []) [0,3,4,5,6,7,11,12,14,15])) }
def s41:SFunc:={ fid:=41,mode:=.scp,nparams:=2,nboxes:=1,clr:=[],results:=[],body:=
 (.seq (.g [.o 3 (.boxF 0 6) [.T 1]] []) (.r [.m 4 (.t 0),.o 5 .nilCheck [.t 4],.f 6 8 (.T 5),
 .d 7 (.T 6),.f 8 4 (.t 3),.l 9 0 (.t 8),.m 10 (.t 0),.f 11 1 (.t 3),
 .l 12 0 (.t 11),.c 13 46 [.t 10,.t 12],.o 14 (.indexAddr 1) [.T 7,.t 9],
 .n (.store 1) [.T 14,.t 13]] (some [(3,9)]) [0,3,4,8,9,10,11,12,13])) }
def s42:SFunc:={ fid:=42,mode:=.pure,nparams:=2,nboxes:=2,clr:=[],results:=[.tmp 4 false],body:=
 (.seq (.g [.o 2 (.boxF 0 5) [.T 0],.o 3 (.boxF 1 3) [.t 1],.m 4 (.b false)] [1,4]) (.seq (.seq (.g [
 .f 5 2 (.t 3),.l 6 1 (.t 5),.o 7 (.bin .lss) [.t 6,.i 0],.m 8 (.t 7),
 .z 9 (.fieldAddr 2) [.t 3] 8,.z 10 (.loadF 1 false 1 false) [.t 9] 8,.z 11 (.bin .gtr) [.t 10,.i 3] 8,
 .o 12 .pick [.t 8,.b true,.t 11]] [5,6,7,8,9,10,11]) (.cond (.T 12) [2,3] (.seq (.g [.m 4 (.b false)] [])
 .ret) [] .skip)) (.seq (.seq (.g [.f 13 0 (.t 3),.l 14 1 (.t 13)] [13]) (.block 0 (.seq (.seq (.g [
 .o 16 (.bin .eql) [.t 14,.i 1],.m 15 (.t 16)] [16]) (.cond (.t 15) [14] .skip [15] (.g [
 .o 17 (.bin .eql) [.t 14,.i 2],.m 15 (.t 17)] [14,17]))) (.cond (.T 15) [2] (.seq (.g [.f 18 1 (.t 3),
 .l 19 1 (.t 18),.o 20 (.bin .eql) [.t 19,.i 0],.m 4 (.t 20)] [3,18,19,20]) .ret) [] .skip)))) (.seq
 (.g [.f 21 0 (.t 3),.l 22 1 (.t 21),.o 23 (.bin .eql) [.t 22,.i 3],.m 24 (.t 23),
 .y 25 (.fieldAddr 1) [.t 3] 24,.y 26 (.loadF 1 false 1 false) [.t 25] 24,.y 27 (.bin .geq) [.t 26,.i 0] 24,
 .o 28 .pick [.t 24,.t 27,.b false],.m 29 (.t 28),.y 30 (.fieldAddr 1) [.t 3] 29,.y 31 (.loadF 1 false 1 false) [.t 30] 29,
 .y 32 (.fieldAddr 0) [.t 2] 29,.y 33 (.loadF 0 false 1 false) [.t 32] 29,.y 34 (.len .sl) [.T 33] 29,.y 35 (.bin .lss) [.t 31,.t 34] 29,
 .o 36 .pick [.t 29,.t 35,.b false],.m 4 (.t 36)] [2,3,21,22,23,24,25,26,27,28,29,30,31,32,33,34,35,36]) .ret)))) }
def s43:SFunc:={ fid:=43,mode:=.pure,nparams:=1,nboxes:=1,clr:=[],results:=[.tmp 2 false],body:=
 (.seq (.g [.o 1 (.boxF 0 3) [.t 0],.m 2 (.b false)] [0,2]) (.seq (.g [.f 3 0 (.t 1),
 .l 4 0 (.t 3),.o 5 (.bin .eql) [.t 4,.i 3],.m 6 (.t 5),.z 7 (.fieldAddr 2) [.t 1] 6,
 .z 8 (.loadF 0 false 1 false) [.t 7] 6,.z 9 (.bin .gtr) [.t 8,.i 0] 6,.o 10 .pick [.t 6,.b true,.t 9],
 .m 2 (.t 10)] [1,3,4,5,6,7,8,9,10]) .ret)) }
def s44_l0:SCode:=
 (.seq (.g [.o 73 (.bin .lss) [.t 72,.t 71]] []) (.seq (.cond (.T 73) [] .skip [1,2,70,71,72] (.exit 0)) (.seq (.block 1 (.seq (.g [
 .o 74 (.indexAddr 6) [.t 70,.t 72],.o 75 (.load true 6 false) [.T 74],
 .o 7 (.allocF 2 [.i 0,.i 0,.i 0,.i 0,.i 0,.nilSl]) [],.n (.storeF 2 6) [.t 7,.T 75]] []) (.seq (.g [
 .o 76 (.loadF 0 true 5 false) [.t 2],.m 77 (.t 1),.o 78 (.loadF 2 true 6 false) [.t 7],.c 79 58 [.T 76,.t 77,.T 78],
 .o 80 (.un .not) [.t 79]] [7,77,79]) (.cond (.T 80) [1,2,5,70,71,72] (.seq (.g [.m 4 (.b false)] []) .ret) [] .skip))))
 (.g [.o 81 (.bin .add) [.t 72,.i 1],.m 72 (.t 81)] [81]))))
def s44:SFunc:={ fid:=44,mode:=.pure,nparams:=2,nboxes:=3,clr:=[],results:=[.tmp 4 false],body:=
 (.seq (.g [.o 2 (.boxF 0 5) [.T 0],.m 4 (.b false)] [4]) (.seq (.g [.f 9 2 (.t 2),
 .l 10 0 (.t 9),.m 11 (.t 1),.o 12 (.indexAddr 7) [.T 10,.t 11],.o 13 (.load true 7 false) [.T 12],
 .o 5 (.allocF 1 [.i 0,.nilSl,.bool false,.i 0,.i 0,.i 0,.nilSl]) [],.n (.storeF 1 7) [.t 5,.T 13]] [9,11]) (.seq (.seq
 (.g [.f 14 0 (.t 5),.l 15 1 (.t 14),.o 16 (.bin .lss) [.t 15,.i 0],.m 17 (.t 16),
 .z 18 (.fieldAddr 0) [.t 5] 17,.z 19 (.loadF 1 false 1 false) [.t 18] 17,.z 20 (.bin .gtr) [.t 19,.i 6] 17,
 .o 21 .pick [.t 17,.b true,.t 20],.m 22 (.t 21),.z 23 (.fieldAddr 0) [.t 5] 22,.z 24 (.loadF 1 false 1 false) [.t 23] 22,
 .z 25 (.fieldAddr 1) [.t 5] 22,.z 26 (.loadF 1 false 1 false) [.t 25] 22,.z 27 (.len .sl) [.T 26] 22,.z 28 (.bin .gtr) [.t 24,.t 27] 22,
 .o 29 .pick [.t 22,.b true,.t 28],.m 30 (.t 29),.z 31 (.fieldAddr 1) [.t 5] 30,.z 32 (.loadF 1 false 1 false) [.t 31] 30,
 .z 33 (.len .sl) [.T 32] 30,.z 34 (.bin .gtr) [.t 33,.i 4000] 30,.o 35 .pick [.t 30,.b true,.t 34],.m 36 (.t 35),
 .z 37 (.fieldAddr 6) [.t 5] 36,.z 38 (.loadF 1 false 1 false) [.t 37] 36,.z 39 (.len .sl) [.T 38] 36,.z 40 (.bin .eql) [.t 39,.i 0] 36,
 .o 41 .pick [.t 36,.b true,.t 40],.m 42 (.t 41),.z 43 (.loadF 0 true 5 false) [.t 2] 42,.z 44 (.fieldAddr 1) [.t 5] 42,
 .z 45 (.loadF 1 false 1 false) [.t 44] 42,.z 46 (.call 19) [.T 43,.T 45] 42,.z 47 (.un .not) [.t 46] 42,
 .o 48 .pick [.t 42,.b true,.t 47]] [14,15,16,17,18,19,20,21,22,23,24,25,26,27,28,29,30,31,32,33,34,35,36,37,38,39,40,41,42,43,44,45,46,47])
 (.cond (.T 48) [1,2,5] (.seq (.g [.m 4 (.b false)] []) .ret) [] .skip)) (.seq (.seq (.r [.f 49 2 (.t 5),
 .l 50 1 (.t 49),.m 51 (.t 50),.y 52 (.loadF 0 true 5 false) [.t 2] 51,.y 53 (.fieldAddr 3) [.t 5] 51,
 .y 54 (.loadF 1 true 3 false) [.t 53] 51,.y 55 (.call 42) [.T 52,.t 54] 51,.y 56 (.un .not) [.t 55] 51,.o 57 .pick [.t 51,.t 56,.b false],
 .m 58 (.t 57),.z 59 (.fieldAddr 2) [.t 5] 58,.z 60 (.loadF 1 false 1 false) [.t 59] 58,.z 61 (.un .not) [.t 60] 58,.z 62 .move [.t 61] 58,
 .y 63 (.fieldAddr 3) [.t 5] 62,.y 64 (.loadF 1 true 3 false) [.t 63] 62,.y 65 (.call 57) [] 62,.y 66 (.eqv (.flat [.int,.int,.int]) true) [.t 64,.t 65] 62,
 .z 67 .pick [.t 62,.t 66,.b false] 58,
 .o 68 .pick [.t 58,.b true,.t 67]] (some []) [49,50,51,52,53,54,55,56,57,58,59,60,61,62,63,64,65,66,67]) (.cond (.T 68) [1,2,5] (.seq (.g [
 .m 4 (.b false)] []) .ret) [] .skip)) (.seq (.seq (.g [.f 69 6 (.t 5),.l 70 1 (.t 69),
 .o 71 (.len .sl) [.t 70],.m 72 (.i 0)] [69]) (.block 0 (.loop s44_l0))) (.seq (.g [.f 82 6 (.t 5),
 .l 83 1 (.t 82),.f 84 6 (.t 5),.l 85 1 (.t 84),.o 86 (.len .sl) [.T 85],
 .o 87 (.bin .sub) [.t 86,.i 1],.o 88 (.indexAddr 6) [.T 83,.t 87],.f 89 0 (.T 88),.d 90 (.T 89),
 .m 8 (.t 90)] [5,82,84,86,87,90]) (.seq (.g [.m 91 (.t 8),.o 92 (.bin .eql) [.t 91,.i 16],.m 93 (.t 92),
 .z 94 .move [.t 8] 93,.z 95 (.bin .eql) [.t 94,.i 17] 93,.o 96 .pick [.t 93,.b true,.t 95],.m 97 (.t 96),
 .z 98 .move [.t 8] 97,.z 99 (.bin .eql) [.t 98,.i 18] 97,.o 100 .pick [.t 97,.b true,.t 99],
 .m 4 (.t 100)] [8,91,92,93,94,95,96,97,98,99,100]) .ret))))))) }
def s45:SFunc:={ fid:=45,mode:=.scp,nparams:=3,nboxes:=0,clr:=[],results:=[],body:=
 (.g [.m 6 (.t 0),.c 7 17 [.t 6],.o 8 .nilCheck [.t 7],.f 9 2 (.T 8),.d 10 (.T 9),
 .m 11 (.t 1),.m 12 (.t 2),.o 13 (.indexAddr 1) [.T 10,.t 11],.n (.store 1) [.T 13,.t 12]] [0,1,2,6,7,11,12]) }
def s46:SFunc:={ fid:=46,mode:=.scp,nparams:=2,nboxes:=0,clr:=[],results:=[.tmp 4 false],body:=
 (.seq (.g [.m 4 (.i 0)] [4]) (.seq (.g [.m 5 (.t 0),.c 6 17 [.t 5],.o 7 .nilCheck [.t 6],
 .f 8 2 (.T 7),.d 9 (.T 8),.m 10 (.t 1),.o 11 (.indexAddr 1) [.T 9,.t 10],.d 12 (.T 11),
 .m 4 (.t 12)] [0,1,5,6,10,12]) .ret)) }
def s47:SFunc:={ fid:=47,mode:=.opn,nparams:=2,nboxes:=0,clr:=[],results:=[.tmp 4 false],body:=
 (.seq (.g [.o 2 (.box 1) [.t 0],.o 3 (.box 1) [.t 1],.o 4 .move [.const .nilFn]] [0,1,4]) (.seq (.g [.o 5 (.makeFunc 59 0) [.T 2,.T 3],
 .m 4 (.t 5)] [5]) .ret)) }
def s48:SFunc:={ fid:=48,mode:=.pure,nparams:=3,nboxes:=0,clr:=[],results:=[.tmp 6 false,.tmp 7 false],body:=
 (.seq (.g [.m 6 (.i 0),.m 7 (.i 0)] [6,7]) (.seq (.seq (.g [.m 8 (.t 0)] [])
 (.block 0 (.seq (.g [.o 10 (.bin .eql) [.t 8,.i 14],.m 9 (.t 10)] [10]) (.cond (.T 9) [0,8] (.seq (.g [
 .m 11 (.t 1),.m 12 (.t 2),.o 13 (.bin .add) [.t 11,.t 12],.m 6 (.t 13),.m 7 (.i 0)] [1,2,11,12,13]) .ret) []
 (.seq (.g [.o 15 (.bin .eql) [.t 8,.i 15],.m 14 (.t 15)] [15]) (.cond (.T 14) [0,8] (.seq (.g [.m 16 (.t 1),
 .m 17 (.t 2),.o 18 (.bin .sub) [.t 16,.t 17],.m 6 (.t 18),.m 7 (.i 0)] [1,2,16,17,18]) .ret) [] (.seq (.g [
 .o 20 (.bin .eql) [.t 8,.i 16],.m 19 (.t 20)] [20]) (.cond (.T 19) [0,8] (.seq (.g [.m 21 (.t 1),.m 22 (.t 2),
 .o 23 (.bin .mul) [.t 21,.t 22],.m 6 (.t 23),.m 7 (.i 0)] [1,2,21,22,23]) .ret) [] (.seq (.seq (.g [
 .o 25 (.bin .eql) [.t 8,.i 17],.m 24 (.t 25)] [25]) (.cond (.t 24) [] .skip [24] (.g [
 .o 26 (.bin .eql) [.t 8,.i 18],.m 24 (.t 26)] [26]))) (.cond (.T 24) [8] (.seq (.seq (.g [.m 27 (.t 2),
 .o 28 (.bin .eql) [.t 27,.i 0]] [27]) (.cond (.T 28) [0,1,2] (.seq (.g [.m 6 (.i 0),
 .m 7 (.i 3)] []) .ret) [] .skip)) (.seq (.seq (.g [.m 29 (.t 0),
 .o 30 (.bin .eql) [.t 29,.i 17]] [0,29]) (.cond (.T 30) [] (.seq (.g [.m 31 (.t 1),.m 32 (.t 2),
 .o 33 (.bin .quo) [.t 31,.t 32],.m 6 (.t 33),.m 7 (.i 0)] [1,2,31,32,33]) .ret) [] .skip)) (.seq (.g [
 .m 34 (.t 1),.m 35 (.t 2),.o 36 (.bin .rem) [.t 34,.t 35],.m 6 (.t 36),.m 7 (.i 0)] [1,2,34,35,36])
 .ret))) [0] (.seq (.g [.o 38 (.bin .eql) [.t 8,.i 19],.m 37 (.t 38)] [38]) (.cond (.T 37) [8] (.seq (.g [
 .m 39 (.t 1),.m 40 (.t 2),.o 41 (.bin .lss) [.t 39,.t 40],.c 42 60 [.t 41],.m 6 (.t 42),
 .m 7 (.i 0)] [1,2,39,40,41,42]) .ret) [] (.seq (.g [.o 44 (.bin .eql) [.t 8,.i 20],
 .m 43 (.t 44)] [44]) (.cond (.T 43) [8] (.seq (.g [.m 45 (.t 1),.m 46 (.t 2),.o 47 (.bin .leq) [.t 45,.t 46],
 .c 48 60 [.t 47],.m 6 (.t 48),.m 7 (.i 0)] [1,2,45,46,47,48]) .ret) [] (.seq (.g [
 .o 50 (.bin .eql) [.t 8,.i 21],.m 49 (.t 50)] [50]) (.cond (.T 49) [8] (.seq (.g [.m 51 (.t 1),.m 52 (.t 2),
 .o 53 (.bin .eql) [.t 51,.t 52],.c 54 60 [.t 53],.m 6 (.t 54),.m 7 (.i 0)] [1,2,51,52,53,54]) .ret) [] (.seq
 (.g [.o 56 (.bin .eql) [.t 8,.i 22],.m 55 (.t 56)] [56]) (.cond (.T 55) [8] (.seq (.g [.m 57 (.t 1),
 .m 58 (.t 2),.o 59 (.bin .neq) [.t 57,.t 58],.c 60 60 [.t 59],.m 6 (.t 60),.m 7 (.i 0)] [1,2,57,58,59,60])
 .ret) [] (.seq (.g [.o 62 (.bin .eql) [.t 8,.i 23],.m 61 (.t 62)] [62]) (.cond (.T 61) [8] (.seq (.g [
 .m 63 (.t 1),.o 64 (.bin .neq) [.t 63,.i 0],.m 65 (.t 64),.y 66 .move [.t 2] 65,
 .y 67 (.bin .neq) [.t 66,.i 0] 65,.o 68 .pick [.t 65,.t 67,.b false],.c 69 60 [.t 68],.m 6 (.t 69),
 .m 7 (.i 0)] [1,2,63,64,65,66,67,68,69]) .ret) [] (.seq (.g [.o 71 (.bin .eql) [.t 8,.i 24],
 .m 70 (.t 71)] [8,71]) (.cond (.T 70) [] (.seq (.g [.m 72 (.t 1),.o 73 (.bin .neq) [.t 72,.i 0],.m 74 (.t 73),
 .z 75 .move [.t 2] 74,.z 76 (.bin .neq) [.t 75,.i 0] 74,.o 77 .pick [.t 74,.b true,.t 76],.c 78 60 [.t 77],
 .m 6 (.t 78),.m 7 (.i 0)] [1,2,72,73,74,75,76,77,78]) .ret) [1,2] .skip)))))))))))))))))))))) (.seq (.g [
 .m 6 (.i 0),.m 7 (.i 0)] []) .ret))) }
def s49:SFunc:={ fid:=49,mode:=.pure,nparams:=2,nboxes:=0,clr:=[],results:=[.tmp 4 false],body:=
 (.seq (.g [.m 4 (.i 0)] [4]) (.seq (.seq (.g [.m 5 (.t 0)] [0]) (.block 0 (.seq (.g [
 .o 7 (.bin .eql) [.t 5,.i 12],.m 6 (.t 7)] [7]) (.cond (.T 6) [5] (.seq (.g [.m 8 (.t 1),.o 9 (.un .neg) [.t 8],
 .m 4 (.t 9)] [1,8,9]) .ret) [] (.seq (.g [.o 11 (.bin .eql) [.t 5,.i 13],.m 10 (.t 11)] [5,11]) (.cond (.T 10) []
 (.seq (.g [.m 12 (.t 1),.o 13 (.bin .eql) [.t 12,.i 0],.c 14 60 [.t 13],.m 4 (.t 14)] [1,12,13,14])
 .ret) [1] .skip)))))) (.seq (.g [.m 4 (.i 0)] []) .ret))) }
def s50:SFunc:={ fid:=50,mode:=.scp,nparams:=3,nboxes:=0,clr:=[],results:=[.tmp 6 false,.tmp 7 false],body:=
 (.seq (.g [.m 6 (.i 0),.m 7 (.i 0)] [6,7]) (.seq (.g [.m 11 (.t 0),.m 12 (.t 1),
 .m 13 (.t 2),.c 14 61 [.t 11,.t 12,.t 13],.m 10 (.T 14),.o 15 (.extract 0) [.t 10],.o 16 (.extract 1) [.T 10],.m 8 (.t 15),
 .m 9 (.t 16)] [0,1,2,11,12,13,15,16]) (.seq (.seq (.g [.m 17 (.t 9),.o 18 (.bin .neq) [.t 17,.i 0]] [17])
 (.cond (.T 18) [8] (.seq (.g [.m 19 (.t 9),.m 6 (.i 0),.m 7 (.t 19)] [9,19]) .ret) [9] .skip)) (.seq (.g [
 .m 20 (.t 8),.o 21 .nilCheck [.t 20],.d 22 (.T 21),.m 6 (.t 22),.m 7 (.i 0)] [8,20,22])
 .ret)))) }
def s51:SFunc:={ fid:=51,mode:=.scp,nparams:=2,nboxes:=0,clr:=[],results:=[.tmp 4 false],body:=
 (.seq (.g [.m 4 (.b false)] [4]) (.seq (.seq (.g [.m 5 (.t 1),
 .o 6 (.bin .neq) [.t 5,.i 0]] [5]) (.cond (.T 6) [] (.g [.m 7 (.t 0),.m 8 (.t 0),.m 9 (.t 1),
 .o 10 .nilCheck [.t 7],.f 11 11 (.T 10),.f 12 0 (.T 11),.n (.store 1) [.T 12,.i 2],.o 13 .nilCheck [.t 8],
 .f 14 11 (.T 13),.f 15 1 (.T 14),.n (.store 1) [.T 15,.t 9]] [0,7,8,9]) [0] .skip)) (.seq (.g [.m 16 (.t 1),
 .o 17 (.bin .neq) [.t 16,.i 0],.m 4 (.t 17)] [1,16,17]) .ret))) }
def s52:SFunc:={ fid:=52,mode:=.scp,nparams:=4,nboxes:=0,clr:=[],results:=[.tmp 8 false],body:=
 (.seq (.g [.m 8 (.i 0)] [8]) (.seq (.g [.m 12 (.t 0),.m 13 (.t 1),.m 14 (.t 2),
 .c 15 61 [.t 12,.t 13,.t 14],.m 11 (.T 15),.o 16 (.extract 0) [.t 11],.o 17 (.extract 1) [.T 11],.m 9 (.t 16),
 .m 10 (.t 17)] [0,1,2,12,13,14,16,17]) (.seq (.seq (.g [.m 18 (.t 10),.o 19 (.bin .eql) [.t 18,.i 0]] [18])
 (.cond (.T 19) [] (.g [.m 20 (.t 9),.m 21 (.t 3),.o 22 .nilCheck [.t 20],.n (.store 1) [.T 22,.t 21]] [3,9,20,21]) [3,9] .skip))
 (.seq (.g [.m 23 (.t 10),.m 8 (.t 23)] [10,23]) .ret)))) }
def s53:SFunc:={ fid:=53,mode:=.scp,nparams:=2,nboxes:=0,clr:=[],results:=[.tmp 4 false,.tmp 5 false],body:=
 (.seq (.g [.m 4 (.i 0),.m 5 (.i 0)] [4,5]) (.seq (.g [.m 9 (.t 0),.m 10 (.t 1),
 .c 11 62 [.t 9,.t 10],.m 8 (.T 11),.o 12 (.extract 0) [.t 8],.o 13 (.extract 1) [.T 8],.m 6 (.T 12),
 .m 7 (.t 13)] [0,1,9,10,13]) (.seq (.seq (.g [.m 14 (.t 7),.o 15 (.un .not) [.t 14]] [7,14]) (.cond (.T 15) [6] (.seq (.g [
 .m 4 (.i 0),.m 5 (.i 1)] []) .ret) [] .skip)) (.seq (.g [.m 16 (.T 6),.o 17 (.len .sl) [.T 16],
 .m 4 (.t 17),.m 5 (.i 0)] [17]) .ret)))) }
def s54:SFunc:={ fid:=54,mode:=.opn,nparams:=2,nboxes:=0,clr:=[],results:=[.tmp 4 false],body:=
 (.seq (.g [.m 4 (.i 0)] [4]) (.seq (.seq (.g [.m 5 (.t 0),
 .o 6 (.eqv .ptr false) [.t 5,.const .nilPtr]] [5]) (.cond (.T 6) [0,1] (.seq (.g [.m 4 (.i 0)] []) .ret) [] .skip))
 (.seq (.g [.m 7 (.t 0),.m 8 (.t 1),.o 9 (.minmax true) [.t 8,.i 0],.o 10 (.minmax false) [.t 9,.i 8],
 .c 11 63 [.t 7,.t 10],.m 4 (.t 11)] [0,1,7,8,9,10,11]) .ret))) }
def s55:SFunc:={ fid:=55,mode:=.opn,nparams:=2,nboxes:=0,clr:=[],results:=[.tmp 4 false,.tmp 5 false],body:=
 (.seq (.g [.m 4 (.i 0),.m 5 (.i 0)] [4,5]) (.seq (.block 0 (.seq (.g [.m 7 (.t 0),
 .o 8 (.eqv .ptr false) [.t 7,.const .nilPtr],.m 6 (.t 8)] [7,8]) (.cond (.T 6) [0,1] (.seq (.g [.m 4 (.i 0),
 .m 5 (.i 1)] []) .ret) [] (.seq (.g [.m 10 (.t 1),.o 11 (.bin .lss) [.t 10,.i 0],.m 12 (.t 11),
 .z 13 .move [.t 1] 12,.z 14 (.bin .gtr) [.t 13,.i 50] 12,.o 15 .pick [.t 12,.b true,.t 14],
 .m 9 (.t 15)] [10,11,12,13,14,15]) (.cond (.T 9) [0,1] (.seq (.g [.m 4 (.i 0),
 .m 5 (.i 4)] []) .ret) [] .skip))))) (.seq (.g [.m 16 (.t 0),.m 17 (.t 1),.c 18 63 [.t 16,.t 17],
 .m 4 (.t 18),.m 5 (.i 0)] [0,1,16,17,18]) .ret))) }
def s56_l0:SCode:=
 (.seq (.g [.o 11 (.bin .lss) [.t 10,.t 9]] []) (.seq (.cond (.T 11) [] .skip [1,8,9,10] (.exit 0)) (.seq (.block 1 (.seq (.g [
 .o 12 (.indexAddr 1) [.t 8,.t 10],.d 13 (.T 12),.m 7 (.t 13)] [13]) (.g [.m 14 (.T 5),.m 15 (.t 1),
 .m 16 (.t 7),.o 17 .callV [.t 15,.t 16],.o 18 (.lit 1 1 [.i 0] [0]) [.t 17],.o 19 (.append 1 8) [.T 14,.T 18],
 .m 5 (.T 19)] [7,15,16,17]))) (.g [.o 20 (.bin .add) [.t 10,.i 1],.m 10 (.t 20)] [20]))))
def s56:SFunc:={ fid:=56,mode:=.scp,nparams:=2,nboxes:=0,clr:=[],results:=[.tmp 4 true],body:=
 (.seq (.g [.o 4 .move [.const .nilSl]] [4]) (.seq (.g [.o 5 .move [.const .nilSl]] []) (.seq (.seq (.g [.m 8 (.T 0),
 .o 9 (.len .sl) [.t 8],.m 10 (.i 0)] []) (.block 0 (.loop s56_l0))) (.seq (.g [.m 21 (.T 5),
 .m 4 (.T 21)] []) .ret)))) }
def s57:SFunc:={ fid:=57,mode:=.pure,nparams:=0,nboxes:=1,clr:=[],results:=[.box 0 0 3 true],body:=
 (.seq (.g [.o 0 (.allocF 0 [.i 0,.i 0,.i 0]) []] []) (.seq (.g [
 .o 1 (.build [.i 0,.i 0,.i 0] []) [],.n (.storeF 0 3) [.t 0,.t 1]] [1]) .ret)) }
def s58:SFunc:={ fid:=58,mode:=.pure,nparams:=3,nboxes:=2,clr:=[],results:=[.tmp 6 false],body:=
 (.seq (.g [.o 3 (.boxF 0 5) [.T 0],.o 5 (.boxF 1 6) [.T 2],.m 6 (.b false)] [6]) (.seq (.r [.m 7 (.t 1),
 .o 8 (.bin .geq) [.t 7,.i 0],.m 9 (.t 8),.y 10 .move [.t 1] 9,.y 11 (.fieldAddr 2) [.t 3] 9,
 .y 12 (.loadF 0 false 1 false) [.t 11] 9,.y 13 (.len .sl) [.T 12] 9,.y 14 (.bin .lss) [.t 10,.t 13] 9,.o 15 .pick [.t 9,.t 14,.b false],
 .m 16 (.t 15),.y 17 (.loadF 1 true 6 false) [.t 5] 16,.y 18 (.call 64) [.T 17] 16,.o 19 .pick [.t 16,.t 18,.b false],
 .m 20 (.t 19),.y 21 (.loadF 0 true 5 false) [.t 3] 20,.y 22 .move [.t 1] 20,.y 23 (.fieldAddr 2) [.t 3] 20,
 .y 24 (.loadF 0 false 1 false) [.t 23] 20,.y 25 .move [.t 1] 20,.y 26 (.indexAddr 7) [.T 24,.t 25] 20,.y 27 (.load true 7 false) [.T 26] 20,
 .y 28 (.loadF 1 true 6 false) [.t 5] 20,
 .y 29 (.build [.nilSl,.nilSl,.nilSl,.nilSl,.i 0,.i 0,.i 0,.nilSl,.bool false,.i 0,.i 0,.i 0,.nilSl,.i 0,.i 0,.i 0,.i 0,.i 0,.nilSl] [(0,5),(5,1),(6,7),(13,6)]) [.T 21,.t 22,.T 27,.T 28] 20,
 .y 30 (.call 65) [.T 29] 20,.o 31 .pick [.t 20,.t 30,.b false],
 .m 6 (.t 31)] (some []) [1,3,5,7,8,9,10,11,12,13,14,15,16,17,18,19,20,21,22,23,24,25,26,27,28,29,30,31]) .ret)) }
def s59:SFunc:={ fid:=59,mode:=.scp,nparams:=4,nboxes:=0,clr:=[],results:=[],body:=
 (.seq (.g [.d 6 (.t 2),.m 7 (.t 1),.c 8 51 [.t 6,.t 7],.o 9 (.un .not) [.t 8]] [1,6,7,8]) (.cond (.T 9) []
 (.g [.d 10 (.T 2),.d 11 (.T 3),.m 12 (.t 0),
 .c 13 45 [.t 10,.t 11,.t 12]] [0,10,11,12,13]) [0,2,3] .skip)) }
def s60:SFunc:={ fid:=60,mode:=.pure,nparams:=1,nboxes:=0,clr:=[],results:=[.tmp 2 false],body:=
 (.seq (.g [.m 2 (.i 0)] [2]) (.seq (.seq (.g [.m 3 (.t 0)] [0]) (.cond (.T 3) [] (.seq (.g [
 .m 2 (.i 1)] []) .ret) [] .skip)) (.seq (.g [.m 2 (.i 0)] []) .ret))) }
def s61:SFunc:={ fid:=61,mode:=.opn,nparams:=3,nboxes:=0,clr:=[],results:=[.tmp 6 false,.tmp 7 false],body:=
 (.seq (.g [.o 6 .move [.const .nilPtr],.m 7 (.i 0)] [6,7]) (.seq (.g [.m 11 (.t 0),.m 12 (.t 1),
 .c 13 62 [.t 11,.t 12],.m 10 (.T 13),.o 14 (.extract 0) [.t 10],.o 15 (.extract 1) [.T 10],.m 8 (.T 14),
 .m 9 (.t 15)] [0,1,11,12,15]) (.seq (.block 0 (.seq (.g [.m 17 (.t 9),.o 18 (.un .not) [.t 17],.m 16 (.t 18)] [9,17,18])
 (.cond (.T 16) [2,8] (.seq (.g [.o 6 .move [.const .nilPtr],.m 7 (.i 1)] []) .ret) [] (.seq (.g [.m 20 (.t 2),
 .o 21 (.bin .lss) [.t 20,.i 0],.m 22 (.t 21),.z 23 .move [.t 2] 22,.z 24 .move [.t 8] 22,.z 25 (.len .sl) [.T 24] 22,
 .z 26 (.bin .geq) [.t 23,.t 25] 22,.o 27 .pick [.t 22,.b true,.t 26],.m 19 (.t 27)] [20,21,22,23,24,25,26,27]) (.cond (.T 19) [2,8]
 (.seq (.g [.o 6 .move [.const .nilPtr],.m 7 (.i 2)] []) .ret) [] .skip))))) (.seq (.g [.m 28 (.T 8),
 .m 29 (.t 2),.o 30 (.indexAddr 1) [.T 28,.t 29],.m 6 (.T 30),.m 7 (.i 0)] [2,29]) .ret)))) }
def s62:SFunc:={ fid:=62,mode:=.opn,nparams:=2,nboxes:=0,clr:=[],results:=[.tmp 4 true,.tmp 5 false],body:=
 (.seq (.g [.o 4 .move [.const .nilSl],.m 5 (.b false)] [4,5]) (.seq (.seq (.g [.m 6 (.t 0),
 .o 7 (.eqv .ptr false) [.t 6,.const .nilPtr],.m 8 (.t 7),.z 9 .move [.t 1] 8,.z 10 (.bin .lss) [.t 9,.i 1] 8,
 .o 11 .pick [.t 8,.b true,.t 10],.m 12 (.t 11),.z 13 .move [.t 1] 12,.z 14 .move [.t 0] 12,.z 15 .nilCheck [.t 14] 12,
 .z 16 (.fieldAddr 0) [.T 15] 12,.z 17 (.load false 1 false) [.T 16] 12,.z 18 (.len .sl) [.T 17] 12,.z 19 (.bin .gtr) [.t 13,.t 18] 12,
 .o 20 .pick [.t 12,.b true,.t 19]] [6,7,8,9,10,11,12,13,14,15,16,17,18,19]) (.cond (.T 20) [0,1] (.seq (.g [.o 4 .move [.const .nilSl],
 .m 5 (.b false)] []) .ret) [] .skip)) (.seq (.g [.m 21 (.t 0),.o 22 .nilCheck [.t 21],.f 23 0 (.T 22),
 .d 24 (.T 23),.m 25 (.t 1),.o 26 (.bin .sub) [.t 25,.i 1],.o 27 (.indexAddr 1) [.T 24,.t 26],
 .d 28 (.T 27),.m 4 (.T 28),.m 5 (.b true)] [0,1,21,25,26]) .ret))) }
def s63:SFunc:={ fid:=63,mode:=.opn,nparams:=2,nboxes:=0,clr:=[],results:=[.tmp 4 false],body:=
 (.seq (.g [.m 4 (.i 0)] [4]) (.seq (.r [.m 5 (.t 0),.m 6 (.t 0),.o 7 .nilCheck [.t 6],
 .f 8 0 (.T 7),.d 9 (.T 8),.m 10 (.t 1),.o 11 (.makeSl 1 8 [.i 0] true) [.t 10,.t 10],
 .o 12 (.litM 1 1 [.nilSl] [0]) [.T 11],.o 13 (.appendM 1 24) [.T 9,.T 12],.o 14 .nilCheck [.t 5],.f 15 0 (.T 14),
 .n (.store 1) [.T 15,.T 13]] (some [(4,6),(4,7)]) [1,5,6,10]) (.seq (.g [.m 16 (.t 0),.o 17 .nilCheck [.t 16],.f 18 0 (.T 17),
 .d 19 (.T 18),.o 20 (.len .sl) [.T 19],.m 4 (.t 20)] [0,16,20]) .ret))) }
def s64:SFunc:={ fid:=64,mode:=.pure,nparams:=1,nboxes:=1,clr:=[],results:=[.tmp 2 false],body:=
 (.seq (.g [.o 1 (.boxF 0 6) [.T 0],.m 2 (.b false)] [2]) (.seq (.seq (.g [.f 3 0 (.t 1),
 .l 4 0 (.t 3)] [3]) (.block 0 (.seq (.seq (.g [.o 6 (.bin .eql) [.t 4,.i 1],.m 5 (.t 6)] [6])
 (.cond (.t 5) [] .skip [5] (.seq (.g [.o 7 (.bin .eql) [.t 4,.i 11],.m 5 (.t 7)] [7]) (.cond (.t 5) [] .skip [5] (.seq
 (.g [.o 8 (.bin .eql) [.t 4,.i 19],.m 5 (.t 8)] [8]) (.cond (.t 5) [] .skip [5] (.g [
 .o 9 (.bin .eql) [.t 4,.i 20],.m 5 (.t 9)] [9]))))))) (.cond (.T 5) [4] (.seq (.g [.o 10 (.loadF 0 true 6 false) [.t 1],
 .c 11 66 [.T 10,.b true,.b false,.b false,.b true],.m 2 (.t 11)] [1,11]) .ret) [] (.seq
 (.seq (.g [.o 13 (.bin .eql) [.t 4,.i 2],.m 12 (.t 13)] [13]) (.cond (.t 12) [] .skip [12] (.seq (.g [
 .o 14 (.bin .eql) [.t 4,.i 14],.m 12 (.t 14)] [14]) (.cond (.t 12) [] .skip [12] (.seq (.g [
 .o 15 (.bin .eql) [.t 4,.i 15],.m 12 (.t 15)] [15]) (.cond (.t 12) [] .skip [12] (.g [
 .o 16 (.bin .eql) [.t 4,.i 18],.m 12 (.t 16)] [16]))))))) (.cond (.T 12) [4] (.seq (.g [
 .o 17 (.loadF 0 true 6 false) [.t 1],.c 18 66 [.T 17,.b true,.b false,.b false,.b false],
 .m 2 (.t 18)] [1,18]) .ret) [] (.seq (.seq (.g [.o 20 (.bin .eql) [.t 4,.i 3],.m 19 (.t 20)] [20])
 (.cond (.t 19) [] .skip [19] (.g [.o 21 (.bin .eql) [.t 4,.i 10],.m 19 (.t 21)] [21]))) (.cond (.T 19) [4] (.seq (.g [
 .o 22 (.loadF 0 true 6 false) [.t 1],.c 23 66 [.T 22,.b true,.b true,.b false,.b false],
 .m 2 (.t 23)] [1,23]) .ret) [] (.seq (.seq (.g [.o 25 (.bin .eql) [.t 4,.i 5],.m 24 (.t 25)] [25])
 (.cond (.t 24) [] .skip [24] (.g [.o 26 (.bin .eql) [.t 4,.i 12],.m 24 (.t 26)] [26]))) (.cond (.T 24) [4] (.seq (.g [
 .o 27 (.loadF 0 true 6 false) [.t 1],.c 28 66 [.T 27,.b true,.b true,.b false,.b true],
 .m 2 (.t 28)] [1,28]) .ret) [] (.seq (.seq (.g [.o 30 (.bin .eql) [.t 4,.i 6],.m 29 (.t 30)] [30])
 (.cond (.t 29) [] .skip [29] (.seq (.g [.o 31 (.bin .eql) [.t 4,.i 7],.m 29 (.t 31)] [31]) (.cond (.t 29) [] .skip [29]
 (.seq (.g [.o 32 (.bin .eql) [.t 4,.i 8],.m 29 (.t 32)] [32]) (.cond (.t 29) [] .skip [29] (.g [
 .o 33 (.bin .eql) [.t 4,.i 9],.m 29 (.t 33)] [33]))))))) (.cond (.T 29) [4] (.seq (.g [.o 34 (.loadF 0 true 6 false) [.t 1],
 .c 35 66 [.T 34,.b true,.b true,.b true,.b false],.m 2 (.t 35)] [1,35]) .ret) [] (.seq
 (.g [.o 37 (.bin .eql) [.t 4,.i 4],.m 36 (.t 37)] [37]) (.cond (.T 36) [4] (.seq (.g [
 .o 38 (.loadF 0 true 6 false) [.t 1],.c 39 66 [.T 38,.b true,.b true,.b true,.b true],
 .m 2 (.t 39)] [1,39]) .ret) [] (.seq (.g [.o 41 (.bin .eql) [.t 4,.i 13],.m 40 (.t 41)] [41]) (.cond (.T 40) [4]
 (.seq (.g [.o 42 (.loadF 0 true 6 false) [.t 1],
 .c 43 66 [.T 42,.b true,.b false,.b true,.b false],.m 2 (.t 43)] [1,43]) .ret) [] (.seq
 (.g [.o 45 (.bin .eql) [.t 4,.i 16],.m 44 (.t 45)] [45]) (.cond (.T 44) [4] (.seq (.g [
 .o 46 (.loadF 0 true 6 false) [.t 1],.c 47 66 [.T 46,.b false,.b false,.b false,.b true],
 .m 2 (.t 47)] [1,47]) .ret) [] (.seq (.g [.o 49 (.bin .eql) [.t 4,.i 17],.m 48 (.t 49)] [4,49]) (.cond (.T 48) []
 (.seq (.g [.o 50 (.loadF 0 true 6 false) [.t 1],
 .c 51 66 [.T 50,.b true,.b false,.b true,.b true],.m 2 (.t 51)] [1,51]) .ret) [1]
 .skip)))))))))))))))))))) (.seq (.g [.m 2 (.b false)] []) .ret))) }
def s65:SFunc:={ fid:=65,mode:=.pure,nparams:=1,nboxes:=3,clr:=[],results:=[.tmp 2 false],body:=
 (.seq (.g [.o 1 (.boxF 0 19) [.T 0],.m 2 (.b false)] [2]) (.seq (.g [.f 5 13 (.t 1),
 .o 6 (.loadF 0 true 6 false) [.t 5],.o 3 (.allocF 1 [.i 0,.i 0,.i 0,.i 0,.i 0,.nilSl]) [],
 .n (.storeF 1 6) [.t 3,.T 6]] [5]) (.seq (.seq (.g [.f 7 0 (.t 3),.l 8 1 (.t 7)] [7]) (.block 0 (.seq
 (.g [.o 10 (.bin .eql) [.t 8,.i 1],.m 9 (.t 10)] [10]) (.cond (.T 9) [8] (.seq (.g [
 .o 11 (.loadF 0 true 19 false) [.t 1],.f 12 1 (.t 3),.l 13 1 (.t 12),.o 14 (.lit 1 1 [.i 0] [0]) [.t 13],
 .c 15 67 [.T 11,.T 14],.m 16 (.t 15),.z 17 (.loadF 0 true 19 false) [.t 1] 16,.z 18 (.fieldAddr 1) [.t 3] 16,
 .z 19 (.loadF 1 false 1 false) [.t 18] 16,.z 20 (.lit 1 1 [.i 0] [0]) [.t 19] 16,.z 21 (.call 68) [.T 17,.T 20] 16,.z 22 .move [.t 21] 16,
 .y 23 (.fieldAddr 4) [.t 3] 22,.y 24 (.loadF 1 false 1 false) [.t 23] 22,.y 25 (.bin .eql) [.t 24,.i 0] 22,.y 26 .move [.t 25] 22,
 .z 27 (.fieldAddr 4) [.t 3] 26,.z 28 (.loadF 1 false 1 false) [.t 27] 26,.z 29 (.bin .eql) [.t 28,.i 1] 26,
 .y 30 .pick [.t 26,.b true,.t 29] 22,.z 31 .pick [.t 22,.t 30,.b false] 16,.o 32 .pick [.t 16,.b true,.t 31],
 .m 2 (.t 32)] [1,3,12,13,15,16,17,18,19,20,21,22,23,24,25,26,27,28,29,30,31,32]) .ret) [] (.seq (.g [
 .o 34 (.bin .eql) [.t 8,.i 2],.m 33 (.t 34)] [34]) (.cond (.T 33) [8] (.seq (.g [.o 35 (.loadF 0 true 19 false) [.t 1],
 .f 36 1 (.t 3),.l 37 1 (.t 36),.c 38 69 [.T 35,.t 37],.c 39 43 [.t 38],
 .m 2 (.t 39)] [1,3,36,37,38,39]) .ret) [] (.seq (.g [.o 41 (.bin .eql) [.t 8,.i 3],.m 40 (.t 41)] [41])
 (.cond (.T 40) [8] (.seq (.r [.o 42 (.loadF 0 true 19 false) [.t 1],.o 43 (.loadF 0 true 19 false) [.t 1],.f 44 1 (.t 3),
 .l 45 1 (.t 44),.c 46 69 [.T 43,.t 45],.f 47 2 (.t 3),.l 48 1 (.t 47),
 .o 49 (.lit 1 1 [.i 0] [0]) [.t 48],.c 50 70 [.T 42,.t 46,.T 49],.m 2 (.t 50)] (some []) [1,3,44,45,46,47,48,50]) .ret) [] (.seq
 (.g [.o 52 (.bin .eql) [.t 8,.i 4],.m 51 (.t 52)] [52]) (.cond (.T 51) [3,8] (.seq (.g [
 .o 53 (.loadF 0 true 19 false) [.t 1],.c 54 71 [.T 53],.m 2 (.t 54)] [1,54]) .ret) [] (.seq (.g [
 .o 56 (.bin .eql) [.t 8,.i 5],.m 55 (.t 56)] [56]) (.cond (.T 55) [8] (.seq (.g [.f 57 4 (.t 3),
 .l 58 1 (.t 57),.o 59 (.bin .eql) [.t 58,.i 12],.m 60 (.t 59),.y 61 (.loadF 0 true 19 false) [.t 1] 60,
 .y 62 (.fieldAddr 1) [.t 3] 60,.y 63 (.loadF 1 false 1 false) [.t 62] 60,.y 64 (.fieldAddr 2) [.t 3] 60,.y 65 (.loadF 1 false 1 false) [.t 64] 60,
 .y 66 (.lit 1 2 [.i 0] [0,1]) [.t 63,.t 65] 60,.y 67 (.call 67) [.T 61,.T 66] 60,.o 68 .pick [.t 60,.t 67,.b false],.m 69 (.t 68),
 .z 70 (.fieldAddr 4) [.t 3] 69,.z 71 (.loadF 1 false 1 false) [.t 70] 69,.z 72 (.bin .eql) [.t 71,.i 13] 69,.z 73 .move [.t 72] 69,
 .y 74 (.loadF 0 true 19 false) [.t 1] 73,.y 75 (.fieldAddr 1) [.t 3] 73,.y 76 (.loadF 1 false 1 false) [.t 75] 73,.y 77 (.fieldAddr 2) [.t 3] 73,
 .y 78 (.loadF 1 false 1 false) [.t 77] 73,.y 79 (.lit 1 2 [.i 0] [0,1]) [.t 76,.t 78] 73,.y 80 (.call 68) [.T 74,.T 79] 73,
 .z 81 .pick [.t 73,.t 80,.b false] 69,.o 82 .pick [.t 69,.b true,.t 81],
 .m 2 (.t 82)] [1,3,57,58,59,60,61,62,63,64,65,66,67,68,69,70,71,72,73,74,75,76,77,78,79,80,81,82]) .ret) [] (.seq (.g [
 .o 84 (.bin .eql) [.t 8,.i 6],.m 83 (.t 84)] [84]) (.cond (.T 83) [8] (.seq (.g [.o 85 (.loadF 0 true 19 false) [.t 1],
 .f 86 2 (.t 3),.l 87 1 (.t 86),.f 88 3 (.t 3),.l 89 1 (.t 88),
 .f 90 1 (.t 3),.l 91 1 (.t 90),.c 92 72 [.T 85,.t 87,.t 89,.t 91],
 .m 2 (.t 92)] [1,3,86,87,88,89,90,91,92]) .ret) [] (.seq (.g [.o 94 (.bin .eql) [.t 8,.i 7],.m 93 (.t 94)] [94])
 (.cond (.T 93) [8] (.seq (.g [.o 95 (.loadF 0 true 19 false) [.t 1],.f 96 1 (.t 3),.l 97 1 (.t 96),
 .f 98 3 (.t 3),.l 99 1 (.t 98),.f 100 2 (.t 3),.l 101 1 (.t 100),
 .c 102 72 [.T 95,.t 97,.t 99,.t 101],.m 2 (.t 102)] [1,3,96,97,98,99,100,101,102]) .ret) [] (.seq (.g [
 .o 104 (.bin .eql) [.t 8,.i 8],.m 103 (.t 104)] [104]) (.cond (.T 103) [8] (.seq (.g [
 .o 105 (.loadF 0 true 19 false) [.t 1],.f 106 2 (.t 3),.l 107 1 (.t 106),.f 108 1 (.t 3),
 .l 109 1 (.t 108),.c 110 73 [.T 105,.t 107,.t 109],.m 111 (.t 110),.y 112 (.loadF 0 true 19 false) [.t 1] 111,
 .y 113 (.fieldAddr 3) [.t 3] 111,.y 114 (.loadF 1 false 1 false) [.t 113] 111,.y 115 (.lit 1 1 [.i 0] [0]) [.t 114] 111,
 .y 116 (.call 67) [.T 112,.T 115] 111,.o 117 .pick [.t 111,.t 116,.b false],
 .m 2 (.t 117)] [1,3,106,107,108,109,110,111,112,113,114,115,116,117]) .ret) [] (.seq (.g [.o 119 (.bin .eql) [.t 8,.i 9],
 .m 118 (.t 119)] [119]) (.cond (.T 118) [8] (.seq (.g [.o 120 (.loadF 0 true 19 false) [.t 1],.f 121 1 (.t 3),
 .l 122 1 (.t 121),.f 123 3 (.t 3),.l 124 1 (.t 123),.c 125 73 [.T 120,.t 122,.t 124],
 .m 126 (.t 125),.y 127 (.loadF 0 true 19 false) [.t 1] 126,.y 128 (.fieldAddr 2) [.t 3] 126,.y 129 (.loadF 1 false 1 false) [.t 128] 126,
 .y 130 (.lit 1 1 [.i 0] [0]) [.t 129] 126,.y 131 (.call 67) [.T 127,.T 130] 126,.o 132 .pick [.t 126,.t 131,.b false],
 .m 2 (.t 132)] [1,3,121,122,123,124,125,126,127,128,129,130,131,132]) .ret) [] (.seq (.g [.o 134 (.bin .eql) [.t 8,.i 10],
 .m 133 (.t 134)] [134]) (.cond (.T 133) [8] (.seq (.g [.o 135 (.loadF 0 true 19 false) [.t 1],.f 136 1 (.t 3),
 .l 137 1 (.t 136),.o 138 (.lit 1 1 [.i 0] [0]) [.t 137],.c 139 67 [.T 135,.T 138],.m 140 (.t 139),
 .y 141 (.loadF 0 true 19 false) [.t 1] 140,.y 142 (.fieldAddr 2) [.t 3] 140,.y 143 (.loadF 1 false 1 false) [.t 142] 140,
 .y 144 (.call 69) [.T 141,.t 143] 140,.y 145 (.field 2 1 false) [.t 144] 140,.y 146 (.bin .gtr) [.t 145,.i 0] 140,
 .o 147 .pick [.t 140,.t 146,.b false],.m 2 (.t 147)] [1,3,136,137,139,140,141,142,143,144,145,146,147]) .ret) [] (.seq (.g [
 .o 149 (.bin .eql) [.t 8,.i 11],.m 148 (.t 149)] [149]) (.cond (.T 148) [8] (.seq (.g [
 .o 150 (.loadF 0 true 19 false) [.t 1],.f 151 1 (.t 3),.l 152 1 (.t 151),.c 153 69 [.T 150,.t 152],
 .o 4 (.allocF 2 [.i 0,.i 0,.i 0]) [],.n (.storeF 2 3) [.t 4,.t 153]] [151,152,153]) (.seq (.g [.f 154 0 (.t 4),
 .l 155 2 (.t 154),.o 156 (.bin .eql) [.t 155,.i 3],.m 157 (.t 156),.y 158 (.fieldAddr 2) [.t 4] 157,
 .y 159 (.loadF 2 false 1 false) [.t 158] 157,.y 160 (.bin .eql) [.t 159,.i 0] 157,.o 161 .pick [.t 157,.t 160,.b false],
 .m 162 (.t 161),.y 163 (.loadF 0 true 19 false) [.t 1] 162,.y 164 (.fieldAddr 4) [.t 3] 162,.y 165 (.loadF 1 false 1 false) [.t 164] 162,
 .y 166 (.fieldAddr 1) [.t 3] 162,.y 167 (.loadF 1 false 1 false) [.t 166] 162,.y 168 (.call 74) [.T 163,.t 165,.t 167] 162,
 .o 169 .pick [.t 162,.t 168,.b false],.m 2 (.t 169)] [1,3,4,154,155,156,157,158,159,160,161,162,163,164,165,166,167,168,169])
 .ret)) [] (.seq (.g [.o 171 (.bin .eql) [.t 8,.i 12],.m 170 (.t 171)] [8,171]) (.cond (.T 170) [] (.seq (.g [
 .o 172 (.loadF 0 true 19 false) [.t 1],.f 173 1 (.t 3),.l 174 1 (.t 173),.c 175 69 [.T 172,.t 174],
 .o 176 (.field 2 1 false) [.t 175],.o 177 (.bin .gtr) [.t 176,.i 0],.m 178 (.t 177),.y 179 (.loadF 0 true 19 false) [.t 1] 178,
 .y 180 (.fieldAddr 4) [.t 3] 178,.y 181 (.loadF 1 false 1 false) [.t 180] 178,.y 182 (.fieldAddr 1) [.t 3] 178,
 .y 183 (.loadF 1 false 1 false) [.t 182] 178,.y 184 (.call 74) [.T 179,.t 181,.t 183] 178,.o 185 .pick [.t 178,.t 184,.b false],
 .m 186 (.t 185),.y 187 (.loadF 0 true 19 false) [.t 1] 186,.y 188 (.fieldAddr 2) [.t 3] 186,.y 189 (.loadF 1 false 1 false) [.t 188] 186,
 .y 190 (.lit 1 1 [.i 0] [0]) [.t 189] 186,.y 191 (.call 67) [.T 187,.T 190] 186,.o 192 .pick [.t 186,.t 191,.b false],
 .m 2 (.t 192)] [1,3,173,174,175,176,177,178,179,180,181,182,183,184,185,186,187,188,189,190,191,192]) .ret) [3] .skip))))))))))))))))))))))))))
 (.seq (.g [.o 193 (.loadF 0 true 19 false) [.t 1],.c 194 75 [.T 193],.m 2 (.t 194)] [1,194]) .ret)))) }
def s66:SFunc:={ fid:=66,mode:=.pure,nparams:=5,nboxes:=1,clr:=[],results:=[.tmp 10 false],body:=
 (.seq (.g [.o 5 (.boxF 0 6) [.T 0],.m 10 (.b false)] [10]) (.seq (.g [.m 11 (.t 1),.m 12 (.t 11),
 .z 13 (.fieldAddr 1) [.t 5] 12,.z 14 (.loadF 0 false 1 false) [.t 13] 12,.z 15 (.bin .eql) [.t 14,.i 0] 12,
 .o 16 .pick [.t 12,.b true,.t 15],.m 17 (.t 16),.y 18 .move [.t 2] 17,.y 19 .move [.t 18] 17,.z 20 (.fieldAddr 2) [.t 5] 19,
 .z 21 (.loadF 0 false 1 false) [.t 20] 19,.z 22 (.bin .eql) [.t 21,.i 0] 19,.y 23 .pick [.t 19,.b true,.t 22] 17,
 .o 24 .pick [.t 17,.t 23,.b false],.m 25 (.t 24),.y 26 .move [.t 3] 25,.y 27 .move [.t 26] 25,.z 28 (.fieldAddr 3) [.t 5] 27,
 .z 29 (.loadF 0 false 1 false) [.t 28] 27,.z 30 (.bin .eql) [.t 29,.i 0] 27,.y 31 .pick [.t 27,.b true,.t 30] 25,
 .o 32 .pick [.t 25,.t 31,.b false],.m 33 (.t 32),.y 34 .move [.t 4] 33,.y 35 .move [.t 34] 33,.z 36 (.fieldAddr 4) [.t 5] 35,
 .z 37 (.loadF 0 false 1 false) [.t 36] 35,.z 38 (.bin .eql) [.t 37,.i 0] 35,.y 39 .pick [.t 35,.b true,.t 38] 33,
 .o 40 .pick [.t 33,.t 39,.b false],.m 41 (.t 40),.y 42 (.fieldAddr 0) [.t 5] 41,.y 43 (.loadF 0 false 1 false) [.t 42] 41,
 .y 44 (.bin .eql) [.t 43,.i 13] 41,.y 45 .move [.t 44] 41,.z 46 (.fieldAddr 5) [.t 5] 45,.z 47 (.loadF 0 false 1 false) [.t 46] 45,
 .z 48 (.len .sl) [.T 47] 45,.z 49 (.bin .eql) [.t 48,.i 0] 45,.y 50 .pick [.t 45,.b true,.t 49] 41,
 .o 51 .pick [.t 41,.t 50,.b false],
 .m 10 (.t 51)] [1,2,3,4,5,11,12,13,14,15,16,17,18,19,20,21,22,23,24,25,26,27,28,29,30,31,32,33,34,35,36,37,38,39,40,41,42,43,44,45,46,47,48,49,50,51])
 .ret)) }
def s67:SFunc:={ fid:=67,mode:=.pure,nparams:=2,nboxes:=1,clr:=[],results:=[.tmp 4 false],body:=
 (.seq (.g [.o 2 (.boxF 0 19) [.T 0],.m 4 (.b false)] [4]) (.seq (.g [.o 5 (.loadF 0 true 19 false) [.t 2],
 .o 6 (.build [.i 0,.i 0,.i 0] [(0,1)]) [.i 1],.m 7 (.T 1),.c 8 70 [.T 5,.t 6,.T 7],
 .m 4 (.t 8)] [2,6,8]) .ret)) }
def s68:SFunc:={ fid:=68,mode:=.pure,nparams:=2,nboxes:=1,clr:=[],results:=[.tmp 4 false],body:=
 (.seq (.g [.o 2 (.boxF 0 19) [.T 0],.m 4 (.b false)] [4]) (.seq (.g [.o 5 (.loadF 0 true 19 false) [.t 2],
 .o 6 (.build [.i 0,.i 0,.i 0] [(0,1)]) [.i 2],.m 7 (.T 1),.c 8 70 [.T 5,.t 6,.T 7],
 .m 4 (.t 8)] [2,6,8]) .ret)) }
def s69:SFunc:={ fid:=69,mode:=.pure,nparams:=2,nboxes:=2,clr:=[],results:=[.box 4 1 3 true],body:=
 (.seq (.g [.o 2 (.boxF 0 19) [.T 0],.o 4 (.allocF 1 [.i 0,.i 0,.i 0]) []] []) (.seq (.seq (.g [.m 5 (.t 1),
 .o 6 (.bin .lss) [.t 5,.i 0],.m 7 (.t 6),.z 8 .move [.t 1] 7,.z 9 (.fieldAddr 6) [.t 2] 7,.z 10 (.fieldAddr 1) [.t 9] 7,
 .z 11 (.loadF 0 false 1 false) [.t 10] 7,.z 12 (.len .sl) [.T 11] 7,.z 13 (.bin .geq) [.t 8,.t 12] 7,
 .o 14 .pick [.t 7,.b true,.t 13]] [5,6,7,8,9,10,11,12,13]) (.cond (.T 14) [1,2] (.seq (.g [.c 15 57 [],
 .n (.storeF 1 3) [.t 4,.t 15]] [15]) .ret) [] .skip)) (.seq (.g [.f 16 6 (.t 2),.f 17 1 (.t 16),
 .l 18 0 (.t 17),.m 19 (.t 1),.o 20 (.indexAddr 3) [.T 18,.t 19],.o 21 (.load true 3 false) [.T 20],
 .n (.storeF 1 3) [.t 4,.t 21]] [1,2,16,17,19,21]) .ret))) }
def s70_l0:SCode:=
 (.seq (.g [.o 12 (.bin .lss) [.t 11,.t 10]] []) (.seq (.cond (.T 12) [] .skip [3,9,10,11] (.exit 0)) (.seq (.block 1 (.seq (.g [
 .o 13 (.indexAddr 1) [.t 9,.t 11],.d 14 (.T 13),.m 8 (.t 14)] [14]) (.seq (.r [.o 15 (.loadF 0 true 19 false) [.t 3],
 .m 16 (.t 8),.c 17 69 [.T 15,.t 16],.o 18 (.loadF 1 true 3 false) [.t 4],
 .o 19 (.eqv (.flat [.int,.int,.int]) true) [.t 17,.t 18]] (some []) [8,16,17,18]) (.cond (.T 19) [3,4,9,10,11] (.seq (.g [
 .m 6 (.b false)] []) .ret) [] .skip)))) (.g [.o 20 (.bin .add) [.t 11,.i 1],.m 11 (.t 20)] [20]))))
def s70:SFunc:={ fid:=70,mode:=.pure,nparams:=3,nboxes:=2,clr:=[],results:=[.tmp 6 false],body:=
 (.seq (.g [.o 3 (.boxF 0 19) [.T 0],.o 4 (.boxF 1 3) [.t 1],.m 6 (.b false)] [1,6]) (.seq (.seq (.g [.m 9 (.T 2),
 .o 10 (.len .sl) [.t 9],.m 11 (.i 0)] []) (.block 0 (.loop s70_l0))) (.seq (.r [.o 21 (.loadF 1 true 3 false) [.t 4],
 .c 22 57 [],.o 23 (.eqv (.flat [.int,.int,.int]) true) [.t 21,.t 22],.m 6 (.t 23)] (some []) [4,21,22,23]) .ret))) }
def s71:SFunc:={ fid:=71,mode:=.pure,nparams:=1,nboxes:=2,clr:=[],results:=[.tmp 2 false],body:=
 (.seq (.g [.o 1 (.boxF 0 19) [.T 0],.m 2 (.b false)] [2]) (.seq (.g [.f 4 13 (.t 1),
 .o 5 (.loadF 0 true 6 false) [.t 4],.o 3 (.allocF 1 [.i 0,.i 0,.i 0,.i 0,.i 0,.nilSl]) [],
 .n (.storeF 1 6) [.t 3,.T 5]] [4]) (.seq (.seq (.g [.f 6 4 (.t 3),.l 7 1 (.t 6)] [6]) (.block 0 (.seq
 (.seq (.g [.o 9 (.bin .eql) [.t 7,.i 14],.m 8 (.t 9)] [9]) (.cond (.t 8) [] .skip [8] (.seq (.g [
 .o 10 (.bin .eql) [.t 7,.i 15],.m 8 (.t 10)] [10]) (.cond (.t 8) [] .skip [8] (.seq (.g [
 .o 11 (.bin .eql) [.t 7,.i 16],.m 8 (.t 11)] [11]) (.cond (.t 8) [] .skip [8] (.seq (.g [
 .o 12 (.bin .eql) [.t 7,.i 17],.m 8 (.t 12)] [12]) (.cond (.t 8) [] .skip [8] (.g [
 .o 13 (.bin .eql) [.t 7,.i 18],.m 8 (.t 13)] [13]))))))))) (.cond (.T 8) [7] (.seq (.g [
 .o 14 (.loadF 0 true 19 false) [.t 1],.f 15 1 (.t 3),.l 16 1 (.t 15),.f 17 2 (.t 3),
 .l 18 1 (.t 17),.f 19 3 (.t 3),.l 20 1 (.t 19),
 .o 21 (.lit 1 3 [.i 0] [0,1,2]) [.t 16,.t 18,.t 20],.c 22 67 [.T 14,.T 21],.m 2 (.t 22)] [1,3,15,16,17,18,19,20,22]) .ret) []
 (.seq (.seq (.g [.o 24 (.bin .eql) [.t 7,.i 19],.m 23 (.t 24)] [24]) (.cond (.t 23) [] .skip [23] (.g [
 .o 25 (.bin .eql) [.t 7,.i 20],.m 23 (.t 25)] [25]))) (.cond (.T 23) [7] (.seq (.g [.o 26 (.loadF 0 true 19 false) [.t 1],
 .f 27 1 (.t 3),.l 28 1 (.t 27),.o 29 (.lit 1 1 [.i 0] [0]) [.t 28],.c 30 68 [.T 26,.T 29],
 .m 31 (.t 30),.y 32 (.loadF 0 true 19 false) [.t 1] 31,.y 33 (.fieldAddr 2) [.t 3] 31,.y 34 (.loadF 1 false 1 false) [.t 33] 31,
 .y 35 (.fieldAddr 3) [.t 3] 31,.y 36 (.loadF 1 false 1 false) [.t 35] 31,.y 37 (.lit 1 2 [.i 0] [0,1]) [.t 34,.t 36] 31,
 .y 38 (.call 67) [.T 32,.T 37] 31,.o 39 .pick [.t 31,.t 38,.b false],.m 2 (.t 39)] [1,3,27,28,30,31,32,33,34,35,36,37,38,39])
 .ret) [] (.seq (.seq (.g [.o 41 (.bin .eql) [.t 7,.i 21],.m 40 (.t 41)] [41]) (.cond (.t 40) [] .skip [40] (.g [
 .o 42 (.bin .eql) [.t 7,.i 22],.m 40 (.t 42)] [42]))) (.cond (.T 40) [7] (.seq (.r [.o 43 (.loadF 0 true 19 false) [.t 1],
 .f 44 1 (.t 3),.l 45 1 (.t 44),.o 46 (.lit 1 1 [.i 0] [0]) [.t 45],.c 47 68 [.T 43,.T 46],
 .m 48 (.t 47),.y 49 (.loadF 0 true 19 false) [.t 1] 48,.y 50 (.loadF 0 true 19 false) [.t 1] 48,.y 51 (.fieldAddr 2) [.t 3] 48,
 .y 52 (.loadF 1 false 1 false) [.t 51] 48,.y 53 (.call 69) [.T 50,.t 52] 48,.y 54 (.fieldAddr 3) [.t 3] 48,.y 55 (.loadF 1 false 1 false) [.t 54] 48,
 .y 56 (.lit 1 1 [.i 0] [0]) [.t 55] 48,.y 57 (.call 70) [.T 49,.t 53,.T 56] 48,.o 58 .pick [.t 48,.t 57,.b false],
 .m 2 (.t 58)] (some []) [1,3,44,45,47,48,49,50,51,52,53,54,55,56,57,58]) .ret) [] (.seq (.seq (.g [.o 60 (.bin .eql) [.t 7,.i 23],
 .m 59 (.t 60)] [60]) (.cond (.t 59) [7] .skip [59] (.g [.o 61 (.bin .eql) [.t 7,.i 24],.m 59 (.t 61)] [7,61])))
 (.cond (.T 59) [] (.seq (.g [.o 62 (.loadF 0 true 19 false) [.t 1],.f 63 1 (.t 3),.l 64 1 (.t 63),
 .f 65 2 (.t 3),.l 66 1 (.t 65),.f 67 3 (.t 3),.l 68 1 (.t 67),
 .o 69 (.lit 1 3 [.i 0] [0,1,2]) [.t 64,.t 66,.t 68],.c 70 68 [.T 62,.T 69],.m 2 (.t 70)] [1,3,63,64,65,66,67,68,70]) .ret) [1,3]
 .skip)))))))))) (.seq (.g [.m 2 (.b false)] []) .ret)))) }
def s72:SFunc:={ fid:=72,mode:=.pure,nparams:=4,nboxes:=2,clr:=[],results:=[.tmp 8 false],body:=
 (.seq (.g [.o 4 (.boxF 0 19) [.T 0],.m 8 (.b false)] [8]) (.seq (.g [.o 11 (.loadF 0 true 19 false) [.t 4],
 .m 12 (.t 1),.c 13 69 [.T 11,.t 12],.o 9 (.allocF 1 [.i 0,.i 0,.i 0]) [],.n (.storeF 1 3) [.t 9,.t 13]] [1,12,13])
 (.seq (.seq (.g [.f 14 0 (.t 9),.l 15 1 (.t 14),.o 16 (.bin .neq) [.t 15,.i 3],
 .m 17 (.t 16),.z 18 (.fieldAddr 2) [.t 9] 17,.z 19 (.loadF 1 false 1 false) [.t 18] 17,.z 20 (.bin .neq) [.t 19,.i 0] 17,
 .o 21 .pick [.t 17,.b true,.t 20],.m 22 (.t 21),.z 23 (.fieldAddr 1) [.t 9] 22,.z 24 (.loadF 1 false 1 false) [.t 23] 22,
 .z 25 (.bin .lss) [.t 24,.i 0] 22,.o 26 .pick [.t 22,.b true,.t 25],.m 27 (.t 26),.z 28 (.fieldAddr 1) [.t 9] 27,
 .z 29 (.loadF 1 false 1 false) [.t 28] 27,.z 30 (.fieldAddr 0) [.t 4] 27,.z 31 (.fieldAddr 0) [.t 30] 27,.z 32 (.loadF 0 false 1 false) [.t 31] 27,
 .z 33 (.len .sl) [.T 32] 27,.z 34 (.bin .geq) [.t 29,.t 33] 27,
 .o 35 .pick [.t 27,.b true,.t 34]] [14,15,16,17,18,19,20,21,22,23,24,25,26,27,28,29,30,31,32,33,34]) (.cond (.T 35) [2,3,4,9] (.seq
 (.g [.m 8 (.b false)] []) .ret) [] .skip)) (.seq (.g [.f 36 0 (.t 4),.f 37 0 (.t 36),
 .l 38 0 (.t 37),.f 39 1 (.t 9),.l 40 1 (.t 39),.o 41 (.indexAddr 2) [.T 38,.t 40],
 .f 42 1 (.T 41),.d 43 (.T 42),.m 10 (.T 43)] [9,36,37,39,40]) (.seq (.r [.m 44 (.t 2),
 .o 45 (.bin .geq) [.t 44,.i 0],.m 46 (.t 45),.y 47 .move [.t 2] 46,.y 48 .move [.t 10] 46,.y 49 (.len .sl) [.T 48] 46,
 .y 50 (.bin .lss) [.t 47,.t 49] 46,.o 51 .pick [.t 46,.t 50,.b false],.m 52 (.t 51),.y 53 (.loadF 0 true 19 false) [.t 4] 52,
 .y 54 .move [.t 10] 52,.y 55 .move [.t 2] 52,.y 56 (.indexAddr 4) [.T 54,.t 55] 52,.y 57 (.fieldAddr 1) [.T 56] 52,.y 58 (.load true 3 false) [.T 57] 52,
 .y 59 .move [.t 3] 52,.y 60 (.lit 1 1 [.i 0] [0]) [.t 59] 52,.y 61 (.call 70) [.T 53,.t 58,.T 60] 52,.o 62 .pick [.t 52,.t 61,.b false],
 .m 8 (.t 62)] (some []) [2,3,4,10,44,45,46,47,48,49,50,51,52,53,54,55,56,57,58,59,60,61,62]) .ret))))) }
def s73:SFunc:={ fid:=73,mode:=.pure,nparams:=3,nboxes:=2,clr:=[],results:=[.tmp 6 false],body:=
 (.seq (.g [.o 3 (.boxF 0 19) [.T 0],.m 6 (.b false)] [6]) (.seq (.g [.o 8 (.loadF 0 true 19 false) [.t 3],
 .m 9 (.t 1),.c 10 69 [.T 8,.t 9],.o 7 (.allocF 1 [.i 0,.i 0,.i 0]) [],.n (.storeF 1 3) [.t 7,.t 10]] [1,9,10])
 (.seq (.seq (.g [.f 11 2 (.t 7),.l 12 1 (.t 11),.o 13 (.bin .leq) [.t 12,.i 0]] [11,12])
 (.cond (.T 13) [2,3,7] (.seq (.g [.m 6 (.b false)] []) .ret) [] .skip)) (.seq (.g [.f 14 2 (.t 7),
 .l 15 1 (.t 14),.o 16 (.bin .sub) [.t 15,.i 1],.f 17 2 (.t 7),
 .n (.storeF 1 1) [.t 17,.t 16]] [14,15,16,17]) (.seq (.g [.o 18 (.loadF 0 true 19 false) [.t 3],.o 19 (.loadF 1 true 3 false) [.t 7],
 .m 20 (.t 2),.o 21 (.lit 1 1 [.i 0] [0]) [.t 20],.c 22 70 [.T 18,.t 19,.T 21],.m 6 (.t 22)] [2,3,7,19,20,22]) .ret))))) }
def s74:SFunc:={ fid:=74,mode:=.pure,nparams:=3,nboxes:=1,clr:=[],results:=[.tmp 6 false],body:=
 (.seq (.g [.o 3 (.boxF 0 19) [.T 0],.m 6 (.b false)] [6]) (.seq (.r [.m 7 (.t 1),
 .o 8 (.bin .geq) [.t 7,.i 0],.m 9 (.t 8),.y 10 .move [.t 1] 9,.y 11 (.fieldAddr 0) [.t 3] 9,.y 12 (.fieldAddr 3) [.t 11] 9,
 .y 13 (.loadF 0 false 1 false) [.t 12] 9,.y 14 (.len .sl) [.T 13] 9,.y 15 (.bin .lss) [.t 10,.t 14] 9,.o 16 .pick [.t 9,.t 15,.b false],
 .m 17 (.t 16),.y 18 (.fieldAddr 0) [.t 3] 17,.y 19 (.fieldAddr 3) [.t 18] 17,.y 20 (.loadF 0 false 1 false) [.t 19] 17,.y 21 .move [.t 1] 17,
 .y 22 (.indexAddr 4) [.T 20,.t 21] 17,.y 23 (.fieldAddr 0) [.T 22] 17,.y 24 (.load false 1 false) [.T 23] 17,.y 25 (.fieldAddr 5) [.t 3] 17,
 .y 26 (.loadF 0 false 1 false) [.t 25] 17,.y 27 (.bin .eql) [.t 24,.t 26] 17,.o 28 .pick [.t 17,.t 27,.b false],.m 29 (.t 28),
 .y 30 (.loadF 0 true 19 false) [.t 3] 29,.y 31 (.fieldAddr 0) [.t 3] 29,.y 32 (.fieldAddr 3) [.t 31] 29,.y 33 (.loadF 0 false 1 false) [.t 32] 29,
 .y 34 .move [.t 1] 29,.y 35 (.indexAddr 4) [.T 33,.t 34] 29,.y 36 (.fieldAddr 1) [.T 35] 29,.y 37 (.load true 3 false) [.T 36] 29,.y 38 .move [.t 2] 29,
 .y 39 (.lit 1 1 [.i 0] [0]) [.t 38] 29,.y 40 (.call 70) [.T 30,.t 37,.T 39] 29,.o 41 .pick [.t 29,.t 40,.b false],
 .m 6 (.t 41)] (some []) [1,2,3,7,8,9,10,11,12,13,14,15,16,17,18,19,20,21,22,23,24,25,26,27,28,29,30,31,32,33,34,35,36,37,38,39,40,41]) .ret)) }
def s75:SFunc:={ fid:=75,mode:=.pure,nparams:=1,nboxes:=2,clr:=[],results:=[.tmp 2 false],body:=
 (.seq (.g [.o 1 (.boxF 0 19) [.T 0],.m 2 (.b false)] [2]) (.seq (.g [.f 4 13 (.t 1),
 .o 5 (.loadF 0 true 6 false) [.t 4],.o 3 (.allocF 1 [.i 0,.i 0,.i 0,.i 0,.i 0,.nilSl]) [],
 .n (.storeF 1 6) [.t 3,.T 5]] [4]) (.seq (.seq (.g [.f 6 0 (.t 3),.l 7 1 (.t 6)] [6]) (.block 0 (.seq
 (.g [.o 9 (.bin .eql) [.t 7,.i 13],.m 8 (.t 9)] [9]) (.cond (.T 8) [3,7] (.seq (.g [
 .o 10 (.loadF 0 true 19 false) [.t 1],.c 11 76 [.T 10],.m 2 (.t 11)] [1,11]) .ret) [] (.seq (.seq (.g [
 .o 13 (.bin .eql) [.t 7,.i 14],.m 12 (.t 13)] [13]) (.cond (.t 12) [] .skip [12] (.g [
 .o 14 (.bin .eql) [.t 7,.i 15],.m 12 (.t 14)] [14]))) (.cond (.T 12) [7] (.seq (.g [.o 15 (.loadF 0 true 19 false) [.t 1],
 .f 16 1 (.t 3),.l 17 1 (.t 16),.o 18 (.lit 1 1 [.i 0] [0]) [.t 17],.c 19 67 [.T 15,.T 18],
 .m 2 (.t 19)] [1,3,16,17,19]) .ret) [] (.seq (.g [.o 21 (.bin .eql) [.t 7,.i 16],.m 20 (.t 21)] [21])
 (.cond (.T 20) [7] (.seq (.g [.o 22 (.loadF 0 true 19 false) [.t 1],.f 23 4 (.t 3),.l 24 1 (.t 23),
 .c 25 77 [.T 22,.t 24],.m 2 (.t 25)] [1,3,23,24,25]) .ret) [] (.seq (.g [.o 27 (.bin .eql) [.t 7,.i 17],
 .m 26 (.t 27)] [27]) (.cond (.T 26) [7] (.seq (.g [.o 28 (.loadF 0 true 19 false) [.t 1],.f 29 1 (.t 3),
 .l 30 1 (.t 29),.o 31 (.lit 1 1 [.i 0] [0]) [.t 30],.c 32 68 [.T 28,.T 31],.m 33 (.t 32),
 .y 34 (.loadF 0 true 19 false) [.t 1] 33,.y 35 (.fieldAddr 4) [.t 3] 33,.y 36 (.loadF 1 false 1 false) [.t 35] 33,.y 37 (.call 77) [.T 34,.t 36] 33,
 .o 38 .pick [.t 33,.t 37,.b false],.m 39 (.t 38),.y 40 (.loadF 0 true 19 false) [.t 1] 39,.y 41 (.fieldAddr 3) [.t 3] 39,
 .y 42 (.loadF 1 false 1 false) [.t 41] 39,.y 43 (.call 77) [.T 40,.t 42] 39,.o 44 .pick [.t 39,.t 43,.b false],
 .m 2 (.t 44)] [1,3,29,30,32,33,34,35,36,37,38,39,40,41,42,43,44]) .ret) [] (.seq (.g [.o 46 (.bin .eql) [.t 7,.i 18],
 .m 45 (.t 46)] [7,46]) (.cond (.T 45) [] (.seq (.g [.f 47 6 (.t 1),.f 48 2 (.t 47),
 .l 49 0 (.t 48),.m 50 (.t 49),.y 51 (.loadF 0 true 19 false) [.t 1] 50,.y 52 (.fieldAddr 6) [.t 1] 50,
 .y 53 (.fieldAddr 3) [.t 52] 50,.y 54 (.loadF 0 true 3 false) [.t 53] 50,.y 55 (.fieldAddr 1) [.t 3] 50,.y 56 (.loadF 1 false 1 false) [.t 55] 50,
 .y 57 (.lit 1 1 [.i 0] [0]) [.t 56] 50,.y 58 (.call 70) [.T 51,.t 54,.T 57] 50,.o 59 .pick [.t 50,.t 58,.b false],.m 60 (.t 59),
 .z 61 (.fieldAddr 6) [.t 1] 60,.z 62 (.fieldAddr 2) [.t 61] 60,.z 63 (.loadF 0 false 1 false) [.t 62] 60,.z 64 (.un .not) [.t 63] 60,
 .z 65 .move [.t 64] 60,.y 66 (.fieldAddr 1) [.t 3] 65,.y 67 (.loadF 1 false 1 false) [.t 66] 65,.y 68 (.bin .eql) [.t 67,.const (.i (-1))] 65,
 .z 69 .pick [.t 65,.t 68,.b false] 60,.o 70 .pick [.t 60,.b true,.t 69],
 .m 2 (.t 70)] [1,3,47,48,49,50,51,52,53,54,55,56,57,58,59,60,61,62,63,64,65,66,67,68,69,70]) .ret) [] .skip)))))))))))) (.seq (.g [
 .o 71 (.loadF 0 true 19 false) [.t 1],.f 72 4 (.t 3),.l 73 1 (.t 72),.f 74 1 (.t 3),
 .l 75 1 (.t 74),.c 76 78 [.T 71,.t 73,.t 75],.m 2 (.t 76)] [1,3,72,73,74,75,76]) .ret)))) }
def s76_l0:SCode:=
 (.seq (.g [.o 46 (.bin .lss) [.t 45,.t 44]] []) (.seq (.cond (.T 46) [] .skip [43,44,45] (.exit 0)) (.seq (.block 1 (.seq (.g [
 .m 47 (.t 45),.o 48 (.indexAddr 1) [.t 43,.t 45],.d 49 (.T 48),.m 5 (.t 47),.m 6 (.t 49)] [47,49]) (.seq
 (.r [.o 50 (.loadF 0 true 19 false) [.t 1],.f 51 1 (.t 4),.l 52 2 (.t 51),.m 53 (.t 5),
 .o 54 (.indexAddr 3) [.T 52,.t 53],.o 55 (.load true 3 false) [.T 54],.m 56 (.t 6),.o 57 (.lit 1 1 [.i 0] [0]) [.t 56],
 .c 58 70 [.T 50,.t 55,.T 57],.o 59 (.un .not) [.t 58]] (some []) [5,6,51,53,55,56,58]) (.cond (.T 59) [1,3,4,43,44,45] (.seq (.g [
 .m 2 (.b false)] []) .ret) [] .skip)))) (.g [.o 60 (.bin .add) [.t 45,.i 1],.m 45 (.t 60)] [60]))))
def s76:SFunc:={ fid:=76,mode:=.pure,nparams:=1,nboxes:=3,clr:=[],results:=[.tmp 2 false],body:=
 (.seq (.g [.o 1 (.boxF 0 19) [.T 0],.m 2 (.b false)] [2]) (.seq (.g [.f 7 13 (.t 1),
 .o 8 (.loadF 0 true 6 false) [.t 7],.o 3 (.allocF 1 [.i 0,.i 0,.i 0,.i 0,.i 0,.nilSl]) [],
 .n (.storeF 1 6) [.t 3,.T 8]] [7]) (.seq (.seq (.g [.f 9 3 (.t 3),.l 10 1 (.t 9),
 .o 11 (.bin .lss) [.t 10,.i 0],.m 12 (.t 11),.z 13 (.fieldAddr 3) [.t 3] 12,.z 14 (.loadF 1 false 1 false) [.t 13] 12,
 .z 15 (.fieldAddr 0) [.t 1] 12,.z 16 (.fieldAddr 2) [.t 15] 12,.z 17 (.loadF 0 false 1 false) [.t 16] 12,.z 18 (.len .sl) [.T 17] 12,
 .z 19 (.bin .geq) [.t 14,.t 18] 12,.o 20 .pick [.t 12,.b true,.t 19]] [9,10,11,12,13,14,15,16,17,18,19]) (.cond (.T 20) [1,3] (.seq
 (.g [.m 2 (.b false)] []) .ret) [] .skip)) (.seq (.g [.f 21 0 (.t 1),.f 22 2 (.t 21),
 .l 23 0 (.t 22),.f 24 3 (.t 3),.l 25 1 (.t 24),.o 26 (.indexAddr 7) [.T 23,.t 25],
 .o 27 (.load true 7 false) [.T 26],.o 4 (.allocF 2 [.i 0,.nilSl,.bool false,.i 0,.i 0,.i 0,.nilSl]) [],
 .n (.storeF 2 7) [.t 4,.T 27]] [21,22,24,25]) (.seq (.seq (.g [.f 28 5 (.t 3),.l 29 1 (.t 28),
 .o 30 (.len .sl) [.T 29],.f 31 0 (.t 4),.l 32 2 (.t 31),.o 33 (.bin .neq) [.t 30,.t 32],.m 34 (.t 33),
 .z 35 (.fieldAddr 0) [.t 4] 34,.z 36 (.loadF 2 false 1 false) [.t 35] 34,.z 37 (.fieldAddr 1) [.t 4] 34,.z 38 (.loadF 2 false 1 false) [.t 37] 34,
 .z 39 (.len .sl) [.T 38] 34,.z 40 (.bin .gtr) [.t 36,.t 39] 34,.o 41 .pick [.t 34,.b true,.t 40]] [28,30,31,32,33,34,35,36,37,38,39,40])
 (.cond (.T 41) [1,3,4] (.seq (.g [.m 2 (.b false)] []) .ret) [] .skip)) (.seq (.seq (.g [.f 42 5 (.t 3),
 .l 43 1 (.t 42),.o 44 (.len .sl) [.t 43],.m 45 (.i 0)] [42]) (.block 0 (.loop s76_l0))) (.seq (.g [
 .f 61 1 (.t 3),.l 62 1 (.t 61),.o 63 (.bin .eql) [.t 62,.const (.i (-1))],.m 64 (.t 63),
 .z 65 (.fieldAddr 2) [.t 4] 64,.z 66 (.loadF 2 false 1 false) [.t 65] 64,.z 67 .move [.t 66] 64,.y 68 (.loadF 0 true 19 false) [.t 1] 67,
 .y 69 (.fieldAddr 3) [.t 4] 67,.y 70 (.loadF 2 true 3 false) [.t 69] 67,.y 71 (.fieldAddr 1) [.t 3] 67,.y 72 (.loadF 1 false 1 false) [.t 71] 67,
 .y 73 (.lit 1 1 [.i 0] [0]) [.t 72] 67,.y 74 (.call 70) [.T 68,.t 70,.T 73] 67,.z 75 .pick [.t 67,.t 74,.b false] 64,
 .o 76 .pick [.t 64,.b true,.t 75],.m 2 (.t 76)] [1,3,4,61,62,63,64,65,66,67,68,69,70,71,72,73,74,75,76]) .ret))))))) }
def s77:SFunc:={ fid:=77,mode:=.pure,nparams:=2,nboxes:=1,clr:=[],results:=[.tmp 4 false],body:=
 (.seq (.g [.o 2 (.boxF 0 19) [.T 0],.m 4 (.b false)] [4]) (.seq (.g [.m 5 (.t 1),
 .o 6 (.bin .geq) [.t 5,.i 0],.m 7 (.t 6),.y 8 .move [.t 1] 7,.y 9 (.fieldAddr 6) [.t 2] 7,.y 10 (.fieldAddr 6) [.t 9] 7,
 .y 11 (.loadF 0 false 1 false) [.t 10] 7,.y 12 (.len .sl) [.T 11] 7,.y 13 (.bin .lss) [.t 8,.t 12] 7,.o 14 .pick [.t 7,.t 13,.b false],
 .m 4 (.t 14)] [1,2,5,6,7,8,9,10,11,12,13,14]) .ret)) }
def s78:SFunc:={ fid:=78,mode:=.pure,nparams:=3,nboxes:=1,clr:=[],results:=[.tmp 6 false],body:=
 (.seq (.g [.o 3 (.boxF 0 19) [.T 0],.m 6 (.b false)] [6]) (.seq (.r [.m 7 (.t 1),
 .o 8 (.bin .geq) [.t 7,.i 0],.m 9 (.t 8),.y 10 .move [.t 1] 9,.y 11 (.fieldAddr 0) [.t 3] 9,.y 12 (.fieldAddr 1) [.t 11] 9,
 .y 13 (.loadF 0 false 1 false) [.t 12] 9,.y 14 (.len .sl) [.T 13] 9,.y 15 (.bin .lss) [.t 10,.t 14] 9,.o 16 .pick [.t 9,.t 15,.b false],
 .m 17 (.t 16),.y 18 (.loadF 0 true 19 false) [.t 3] 17,.y 19 (.fieldAddr 0) [.t 3] 17,.y 20 (.fieldAddr 1) [.t 19] 17,
 .y 21 (.loadF 0 false 1 false) [.t 20] 17,.y 22 .move [.t 1] 17,.y 23 (.indexAddr 3) [.T 21,.t 22] 17,.y 24 (.load true 3 false) [.T 23] 17,
 .y 25 .move [.t 2] 17,.y 26 (.lit 1 1 [.i 0] [0]) [.t 25] 17,.y 27 (.call 70) [.T 18,.t 24,.T 26] 17,.o 28 .pick [.t 17,.t 27,.b false],
 .m 6 (.t 28)] (some []) [1,2,3,7,8,9,10,11,12,13,14,15,16,17,18,19,20,21,22,23,24,25,26,27,28]) .ret)) }
def tbl:List (Option SFunc):=[none,none,none,some s3,some s4,some s5,some s6,some s7,some s8,some s9,some s10,some s11,some s12,some s13,some s14,some s15,some s16,some s17,some s18,some s19,some s20,some s21,some s22,some s23,some s24,some s25,some s26,some s27,some s28,some s29,some s30,some s31,some s32,some s33,some s34,some s35,some s36,some s37,some s38,some s39,some s40,some s41,some s42,some s43,some s44,some s45,some s46,some s47,some s48,some s49,some s50,some s51,some s52,some s53,some s54,some s55,some s56,some s57,some s58,some s59,some s60,some s61,some s62,some s63,some s64,some s65,some s66,some s67,some s68,some s69,some s70,some s71,some s72,some s73,some s74,some s75,some s76,some s77,some s78,none,none,none,none,none,none,none,none,none,none,none,none,none,none,none,none,none]
def vtbl:List (Option SFunc):=[]
def S:Nat->Option SFunc:=tabS tbl vtbl
end Code14
