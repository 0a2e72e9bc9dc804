/- Part of a proof. -/
import Derived.Test.YtpnadocbfbbboaaGreatCode1

set_option maxRecDepth 100000
namespace bX
open Ax Go
def nA:aD:={ eZ:=122,mode:=.mR,aE:=3,aM:=3,di:=[],results:=[.tmp 6 false,.tmp 7 false],body:=
 (.seq (.g [.o 4 (.iA 0 9) [.T 1],.o 5 (.iA 1 3) [.t 2],.m 6 (.i 0),.m 7 (.b false)] [2,6,7]) (.seq
 (.seq (.g [.f 11 0 (.t 4),.l 12 0 (.t 11)] [11]) (.block 0 (.seq (.g [
 .o 14 (.aJ .eql) [.t 12,.i 1],.m 13 (.t 14)] [14]) (.cond (.T 13) [12] (.seq (.g [.m 15 (.t 0),
 .f 16 1 (.t 4),.l 17 0 (.t 16),.o 18 (.aL 1 true 3 false) [.t 5],.c 19 143 [.t 15,.t 17,.t 18],
 .o 20 (.extract 0) [.t 19],.o 21 (.extract 1) [.T 19],.m 6 (.t 20),.m 7 (.t 21)] [0,4,5,15,16,17,18,20,21]) .ret) [] (.seq (.g [
 .o 23 (.aJ .eql) [.t 12,.i 2],.m 22 (.t 23)] [23]) (.cond (.T 22) [12] (.seq (.seq (.r [.f 24 4 (.t 4),
 .l 25 0 (.t 24),.o 26 (.indexAddr 11) [.T 25,.i 0],.f 27 7 (.T 26),.o 28 (.load true 3 false) [.T 27],
 .o 29 (.aL 1 true 3 false) [.t 5],.o 30 (.BH (.flat [.int,.int,.int]) true) [.t 28,.t 29]] (some []) [24,28,29]) (.cond (.T 30) [0,4,5] (.seq (.g [
 .m 6 (.i 0),.m 7 (.b false)] []) .ret) [] .skip)) (.seq (.g [.m 31 (.t 0),
 .f 32 1 (.t 4),.l 33 0 (.t 32),.o 34 (.aL 1 true 3 false) [.t 5],.c 35 143 [.t 31,.t 33,.t 34],
 .o 36 (.extract 0) [.t 35],.o 37 (.extract 1) [.T 35],.m 6 (.t 36),.m 7 (.t 37)] [0,4,5,31,32,33,34,36,37]) .ret)) [5] (.seq (.g [
 .o 39 (.aJ .eql) [.t 12,.i 3],.m 38 (.t 39)] [39]) (.cond (.T 38) [12] (.seq (.g [.m 41 (.t 0),
 .f 42 1 (.t 4),.l 43 0 (.t 42),.c 44 144 [.t 41,.t 43],.m 40 (.T 44),.o 45 (.extract 0) [.t 40],
 .o 46 (.extract 1) [.t 40],.o 47 (.extract 2) [.T 40],.o 9 (.aN 2 [.i 0,.i 0,.i 0]) [],.m 8 (.t 45),
 .n (.aj 2 3) [.t 9,.t 46],.m 10 (.t 47)] [0,41,42,43,45,46,47]) (.seq (.r [.m 48 (.t 8),.m 49 (.t 10),.m 50 (.t 49),
 .y 51 (.aL 2 true 3 false) [.t 9] 50,.y 52 (.fieldAddr 4) [.t 4] 50,.y 53 (.aL 0 false 1 false) [.t 52] 50,
 .y 54 (.indexAddr 11) [.T 53,.i 0] 50,.y 55 (.fieldAddr 7) [.T 54] 50,.y 56 (.load true 3 false) [.T 55] 50,
 .y 57 (.BH (.flat [.int,.int,.int]) false) [.t 51,.t 56] 50,.o 58 .pick [.t 50,.t 57,.b false],.m 6 (.t 48),
 .m 7 (.t 58)] (some []) [4,8,9,10,48,49,50,51,52,53,54,55,56,57,58]) .ret)) [] (.seq (.g [.o 60 (.aJ .eql) [.t 12,.i 4],
 .m 59 (.t 60)] [60]) (.cond (.T 59) [0,12] (.seq (.r [.f 61 4 (.t 4),.l 62 0 (.t 61),
 .o 63 (.indexAddr 11) [.T 62,.i 0],.f 64 7 (.T 63),.o 65 (.load true 3 false) [.T 64],.f 66 4 (.t 4),
 .l 67 0 (.t 66),.o 68 (.indexAddr 11) [.T 67,.i 1],.f 69 7 (.T 68),.o 70 (.load true 3 false) [.T 69],
 .o 71 (.BH (.flat [.int,.int,.int]) false) [.t 65,.t 70],.m 6 (.i 0),.m 7 (.t 71)] (some []) [4,61,65,66,70,71]) .ret) [] (.seq
 (.seq (.g [.o 73 (.aJ .eql) [.t 12,.i 5],.m 72 (.t 73)] [73]) (.cond (.t 72) [] .skip [72] (.g [
 .o 74 (.aJ .eql) [.t 12,.i 6],.m 72 (.t 74)] [74]))) (.cond (.T 72) [0,12] (.seq (.r [.f 75 4 (.t 4),
 .l 76 0 (.t 75),.o 77 (.indexAddr 11) [.T 76,.i 0],.f 78 7 (.T 77),.o 79 (.load true 3 false) [.T 78],
 .c 80 145 [],.o 81 (.BH (.flat [.int,.int,.int]) false) [.t 79,.t 80],.m 6 (.i 0),
 .m 7 (.t 81)] (some []) [4,75,79,80,81]) .ret) [] (.seq (.g [.o 83 (.aJ .eql) [.t 12,.i 7],.m 82 (.t 83)] [83])
 (.cond (.T 82) [12] (.seq (.r [.f 84 4 (.t 4),.l 85 0 (.t 84),.o 86 (.len .sl) [.T 85],
 .o 87 (.aJ .eql) [.t 86,.i 0],.m 88 (.t 87),.z 89 (.fieldAddr 4) [.t 4] 88,.z 90 (.aL 0 false 1 false) [.t 89] 88,
 .z 91 (.indexAddr 11) [.T 90,.i 0] 88,.z 92 (.fieldAddr 7) [.T 91] 88,.z 93 (.load true 3 false) [.T 92] 88,.z 94 .move [.t 0] 88,
 .z 95 .nilCheck [.t 94] 88,.z 96 (.fieldAddr 5) [.T 95] 88,.z 97 (.fieldAddr 3) [.T 96] 88,.z 98 (.load true 3 false) [.T 97] 88,
 .z 99 (.BH (.flat [.int,.int,.int]) false) [.t 93,.t 98] 88,.o 100 .pick [.t 88,.b true,.t 99],.m 6 (.i 0),
 .m 7 (.t 100)] (some []) [0,4,84,86,87,88,89,90,91,92,93,94,95,96,97,98,99,100]) .ret) [0] (.seq (.g [
 .o 102 (.aJ .eql) [.t 12,.i 8],.m 101 (.t 102)] [12,102]) (.cond (.T 101) [] (.seq (.r [.f 103 4 (.t 4),
 .l 104 0 (.t 103),.o 105 (.indexAddr 11) [.T 104,.i 0],.f 106 7 (.T 105),
 .o 107 (.load true 3 false) [.T 106],.c 108 146 [],.o 109 (.BH (.flat [.int,.int,.int]) false) [.t 107,.t 108],.m 6 (.i 0),
 .m 7 (.t 109)] (some []) [4,103,107,108,109]) .ret) [4] .skip)))))))))))))))) (.seq (.g [.m 6 (.i 0),
 .m 7 (.b true)] []) .ret))) }
def Nf:aD:={ eZ:=123,mode:=.CN,aE:=3,aM:=1,di:=[],results:=[.tmp 6 false],body:=
 (.seq (.g [.o 5 (.iA 0 11) [.T 2],.m 6 (.i 0)] [6]) (.seq (.seq (.g [.m 9 (.t 0),.c 10 98 [.t 9],
 .o 11 (.un .not) [.t 10]] [9,10]) (.cond (.T 11) [0,1,5] (.seq (.g [.m 6 (.i 0)] []) .ret) [] .skip)) (.seq (.g [
 .m 13 (.t 0),.m 14 (.t 1),.f 15 5 (.t 5),.l 16 0 (.t 15),.c 17 100 [.t 13,.t 14,.T 16],
 .m 12 (.T 17),.o 18 (.extract 0) [.t 12],.o 19 (.extract 1) [.T 12],.m 7 (.T 18),.m 8 (.t 19)] [13,14,15,19]) (.seq (.seq
 (.g [.m 20 (.t 8),.o 21 (.un .not) [.t 20]] [8,20]) (.cond (.T 21) [0,1,5,7] (.seq (.g [.m 6 (.i 0)] [])
 .ret) [] .skip)) (.seq (.seq (.g [.f 22 0 (.t 5),.l 23 0 (.t 22)] [22]) (.block 0 (.seq (.seq (.g [
 .o 25 (.aJ .eql) [.t 23,.i 1],.m 24 (.t 25)] [25]) (.cond (.t 24) [] .skip [24] (.g [
 .o 26 (.aJ .eql) [.t 23,.i 2],.m 24 (.t 26)] [26]))) (.cond (.T 24) [0,1,7,23] (.seq (.g [.f 27 1 (.t 5),
 .l 28 0 (.t 27),.m 6 (.t 28)] [5,27,28]) .ret) [] (.seq (.g [.o 30 (.aJ .eql) [.t 23,.i 4],
 .m 29 (.t 30)] [30]) (.cond (.T 29) [7,23] (.seq (.g [.m 31 (.t 0),.m 32 (.t 1),.f 33 10 (.t 5),
 .l 34 0 (.t 33),.c 35 101 [.t 31,.t 32,.t 34],.o 36 .nilCheck [.t 35],.d 37 (.T 36),
 .m 6 (.t 37)] [0,1,5,31,32,33,34,35,37]) .ret) [1] (.seq (.g [.o 39 (.aJ .eql) [.t 23,.i 5],.m 38 (.t 39)] [39])
 (.cond (.T 38) [23] (.seq (.r [.m 40 (.t 0),.m 41 (.t 0),.o 42 .nilCheck [.t 41],.f 43 5 (.T 42),
 .d 44 (.T 43),.m 45 (.T 7),.o 46 (.indexAddr 1) [.T 45,.i 0],.d 47 (.T 46),
 .f 48 10 (.t 5),.l 49 0 (.t 48),.c 50 148 [.t 44,.t 47,.t 49],.o 51 (.extract 0) [.t 50],
 .o 52 (.extract 1) [.t 50],.c 53 147 [.t 40,.t 51,.t 52],.m 6 (.t 53)] (some []) [0,5,40,41,44,47,48,49,50,51,52,53]) .ret) [] (.seq
 (.g [.o 55 (.aJ .eql) [.t 23,.i 6],.m 54 (.t 55)] [55]) (.cond (.T 54) [5,23] (.seq (.r [.m 56 (.t 0),
 .m 57 (.t 0),.o 58 .nilCheck [.t 57],.f 59 5 (.T 58),.d 60 (.T 59),.m 61 (.t 7),
 .o 62 (.indexAddr 1) [.T 61,.i 0],.d 63 (.T 62),.m 64 (.t 7),.o 65 (.indexAddr 1) [.T 64,.i 1],
 .d 66 (.T 65),.c 67 148 [.t 60,.t 63,.t 66],.o 68 (.extract 0) [.t 67],.o 69 (.extract 1) [.t 67],
 .c 70 147 [.t 56,.t 68,.t 69],.m 6 (.t 70)] (some []) [0,7,56,57,60,63,66,67,68,69,70]) .ret) [] (.seq (.g [
 .o 72 (.aJ .eql) [.t 23,.i 10],.m 71 (.t 72)] [72]) (.cond (.T 71) [5,23] (.seq (.r [.m 73 (.t 0),
 .m 74 (.t 0),.o 75 .nilCheck [.t 74],.f 76 5 (.T 75),.d 77 (.T 76),.m 78 (.T 7),
 .o 79 (.indexAddr 1) [.T 78,.i 0],.d 80 (.T 79),.c 81 149 [.t 77,.t 80],.o 82 (.extract 0) [.t 81],
 .o 83 (.extract 1) [.t 81],.c 84 147 [.t 73,.t 82,.t 83],.m 6 (.t 84)] (some []) [0,73,74,77,80,81,82,83,84]) .ret) [] (.seq (.g [
 .o 86 (.aJ .eql) [.t 23,.i 8],.m 85 (.t 86)] [86]) (.cond (.T 85) [7,23] (.seq (.r [.m 87 (.t 0),
 .o 88 .nilCheck [.t 87],.f 89 5 (.T 88),.d 90 (.T 89),.m 91 (.t 0),.o 92 .nilCheck [.t 91],
 .f 93 0 (.T 92),.f 94 0 (.T 93),.f 95 0 (.T 94),.d 96 (.T 95),.f 97 7 (.t 5),
 .f 98 1 (.t 97),.l 99 0 (.t 98),.o 100 (.indexAddr 2) [.T 96,.t 99],.f 101 1 (.T 100),
 .d 102 (.T 101),.o 103 (.len .sl) [.T 102],.c 104 150 [.t 90,.t 103],
 .m 6 (.t 104)] (some []) [0,5,87,90,91,97,98,99,103,104]) .ret) [] (.seq (.g [.o 106 (.aJ .eql) [.t 23,.i 9],
 .m 105 (.t 106)] [106]) (.cond (.T 105) [5,23] (.seq (.r [.m 107 (.t 0),.m 108 (.t 0),.o 109 .nilCheck [.t 108],
 .f 110 5 (.T 109),.d 111 (.T 110),.m 112 (.T 7),.o 113 (.indexAddr 1) [.T 112,.i 0],
 .d 114 (.T 113),.c 115 151 [.t 111,.t 114],.o 116 (.extract 0) [.t 115],.o 117 (.extract 1) [.t 115],
 .c 118 147 [.t 107,.t 116,.t 117],.m 6 (.t 118)] (some []) [0,107,108,111,114,115,116,117,118]) .ret) [] (.seq (.g [
 .o 120 (.aJ .eql) [.t 23,.i 11],.m 119 (.t 120)] [120]) (.cond (.T 119) [5,7,23] (.seq (.g [.m 121 (.t 0),
 .c 122 152 [.t 121],.m 6 (.t 122)] [0,121,122]) .ret) [] (.seq (.g [.o 124 (.aJ .eql) [.t 23,.i 7],
 .m 123 (.t 124)] [124]) (.cond (.T 123) [23] (.seq (.g [.m 125 (.t 0),.f 126 10 (.t 5),
 .l 127 0 (.t 126),.m 128 (.T 7),.c 129 30 [.t 125,.t 127,.T 128],.m 6 (.t 129)] [0,5,125,126,127,129])
 .ret) [] (.seq (.g [.o 131 (.aJ .eql) [.t 23,.i 3],.m 130 (.t 131)] [131]) (.cond (.T 130) [0,5,7,23] (.seq (.g [
 .m 6 (.i 0)] []) .ret) [] (.seq (.seq (.g [.o 133 (.aJ .eql) [.t 23,.i 12],
 .m 132 (.t 133)] [133]) (.cond (.t 132) [23] .skip [132] (.g [.o 134 (.aJ .eql) [.t 23,.i 13],
 .m 132 (.t 134)] [23,134]))) (.cond (.T 132) [0] (.seq (.r [.f 135 0 (.t 5),.l 136 0 (.t 135),
 .m 137 (.T 7),.o 138 (.indexAddr 1) [.T 137,.i 0],.d 139 (.T 138),.c 140 153 [.t 136,.t 139],
 .m 6 (.t 140)] (some []) [5,135,136,139,140]) .ret) [] .skip)))))))))))))))))))))))) (.seq (.r [.m 141 (.t 0),.f 142 0 (.t 5),
 .l 143 0 (.t 142),.m 144 (.t 7),.o 145 (.indexAddr 1) [.T 144,.i 0],.d 146 (.T 145),
 .m 147 (.t 7),.o 148 (.indexAddr 1) [.T 147,.i 1],.d 149 (.T 148),.c 150 154 [.t 143,.t 146,.t 149],
 .o 151 (.extract 0) [.t 150],.o 152 (.extract 1) [.t 150],.c 153 147 [.t 141,.t 151,.t 152],
 .m 6 (.t 153)] (some []) [0,5,7,141,142,143,146,149,150,151,152,153]) .ret)))))) }
def OG:bE:=
 (.seq (.g [.o 12 (.aJ .lss) [.t 11,.t 10]] []) (.seq (.cond (.T 12) [] .skip [9,10,11] (.exit 0)) (.seq (.block 1 (.seq (.g [
 .o 13 (.indexAddr 1) [.t 9,.t 11],.d 14 (.T 13),.m 5 (.T 14)] []) (.seq (.g [.m 15 (.t 3),.m 16 (.T 5),
 .o 17 (.len .sl) [.T 16],.o 18 (.aJ .add) [.t 15,.t 17],.m 3 (.t 18)] [15,17,18]) (.seq (.g [.m 19 (.t 3),
 .o 20 (.aJ .lss) [.t 19,.i 0]] [19]) (.cond (.T 20) [] (.g [.o 21 (.pW 0) [],.n (.pW 0) []] [21]) [] .skip)))))
 (.g [.o 22 (.aJ .add) [.t 11,.i 1],.m 11 (.t 22)] [22]))))
def OH:bE:=
 (.seq (.g [.o 28 (.aJ .lss) [.t 27,.t 26]] []) (.seq (.cond (.T 28) [] .skip [25,26,27] (.exit 2)) (.seq (.block 3 (.seq (.g [
 .o 29 (.indexAddr 1) [.t 25,.t 27],.d 30 (.T 29),.m 8 (.T 30)] []) (.g [.m 31 (.T 6),.m 32 (.T 8),
 .o 33 (.kh 11 120) [.T 31,.T 32],.m 6 (.T 33)] []))) (.g [.o 34 (.aJ .add) [.t 27,.i 1],
 .m 27 (.t 34)] [34]))))
def acJ:aD:={ eZ:=124,mode:=.pure,aE:=1,aM:=0,di:=[],results:=[.tmp 2 true],body:=
 (.seq (.g [.o 2 .move [.const .U]] [2]) (.seq (.g [.m 3 (.i 0)] []) (.seq (.seq (.g [.m 9 (.t 0),
 .o 10 (.len .sl) [.t 9],.m 11 (.i 0)] []) (.block 0 (.loop OG))) (.seq (.g [.m 23 (.t 3),
 .c 24 155 [.const .U,.t 23],.m 6 (.T 24)] [3,23]) (.seq (.seq (.g [.m 25 (.T 0),.o 26 (.len .sl) [.t 25],
 .m 27 (.i 0)] []) (.block 2 (.loop OH))) (.seq (.seq (.Qe 6) (.g [.m 35 (.T 6),.m 2 (.T 35)] []))
 .ret)))))) }
def Ux:aD:={ eZ:=125,mode:=.mR,aE:=4,aM:=0,di:=[],results:=[.tmp 8 false],body:=
 (.seq (.g [.m 8 (.i 0)] [8]) (.seq (.g [.m 12 (.t 0),.m 13 (.t 1),.m 14 (.t 2),
 .c 15 156 [.t 12,.t 13,.t 14],.m 11 (.T 15),.o 16 (.extract 0) [.t 11],.o 17 (.extract 1) [.T 11],.m 9 (.t 16),
 .m 10 (.t 17)] [0,1,2,12,13,14,16,17]) (.seq (.seq (.g [.m 18 (.t 10),.o 19 (.aJ .eql) [.t 18,.i 0]] [18])
 (.cond (.T 19) [] (.g [.m 20 (.t 9),.m 21 (.t 3),.o 22 .nilCheck [.t 20],.n (.store 1) [.T 22,.t 21]] [3,9,20,21]) [3,9] .skip))
 (.seq (.g [.m 23 (.t 10),.m 8 (.t 23)] [10,23]) .ret)))) }
def OI:bE:=
 (.seq (.seq (.g [.m 7 (.t 0),.c 8 21 [.t 7,.const (.str [46])],.m 9 (.t 8),.z 10 .move [.t 0] 9,
 .z 11 (.call 21) [.t 10,.const (.str [91])] 9,.o 12 .pick [.t 9,.b true,.t 11]] [7,8,9,10,11]) (.cond (.T 12) [] .skip [0] (.exit 0)))
 (.block 1 (.seq (.g [.m 13 (.t 0),.c 14 20 [.t 13],.o 5 (.aN 2 [.i 0,.str [],.i 0,.i 0]) [],
 .n (.aj 2 4) [.t 5,.t 14]] [13,14]) (.seq (.seq (.g [.m 15 (.t 0),.c 16 21 [.t 15,.const (.str [46])]] [15])
 (.cond (.T 16) [] (.seq (.g [.m 17 (.t 0),.o 18 .nilCheck [.t 17],.f 19 1 (.T 18),.d 20 (.T 19),
 .o 21 (.aJ .add) [.t 20,.i 1],.o 22 .nilCheck [.t 17],.f 23 1 (.T 22),.n (.store 1) [.T 23,.t 21]] [17,20,21]) (.seq
 (.r [.m 24 (.t 0),.c 25 41 [.t 24],.o 26 (.aL 0 true 11 false) [.t 3],
 .o 27 (.lit 11 1 [.i 0,.i 0,.str [],.str [],.i 0,.U,.i 0,.i 0,.i 0,.i 0,.i 0] [0]) [.T 26],
 .f 28 3 (.t 5),.l 29 2 (.t 28),
 .o 30 (.build [.i 0,.i 0,.str [],.str [],.i 0,.U,.i 0,.i 0,.i 0,.i 0,.i 0] [(0,1),(2,1),(5,1),(6,1)]) [.i 5,.t 25,.T 27,.t 29],
 .n (.aj 0 11) [.t 3,.T 30]] (some []) [5,24,25,28,29]) (.exit 1))) [] .skip)) (.seq (.g [.m 31 (.t 0),
 .c 32 65 [.t 31,.const (.str [91])]] [31,32]) (.seq (.g [.m 33 (.t 0),.c 34 91 [.t 33,.i 0],
 .o 6 (.aN 3 [.i 0,.i 0,.str [],.str [],.i 0,.U,.i 0,.i 0,.i 0,.i 0,.i 0]) [],
 .n (.aj 3 11) [.t 6,.T 34]] [33]) (.seq (.g [.m 35 (.t 0),.c 36 67 [.t 35,.const (.str [93])]] [35,36]) (.g [
 .o 37 (.aL 0 true 11 false) [.t 3],.o 38 (.aL 3 true 11 false) [.t 6],
 .o 39 (.lit 11 2 [.i 0,.i 0,.str [],.str [],.i 0,.U,.i 0,.i 0,.i 0,.i 0,.i 0] [0,1]) [.T 37,.T 38],
 .f 40 3 (.t 5),.l 41 2 (.t 40),
 .o 42 (.build [.i 0,.i 0,.str [],.str [],.i 0,.U,.i 0,.i 0,.i 0,.i 0,.i 0] [(0,1),(5,1),(6,1)]) [.i 6,.T 39,.t 41],
 .n (.aj 0 11) [.t 3,.T 42]] [5,6,40,41]))))))))
def acK:aD:={ eZ:=137,mode:=.mR,aE:=2,aM:=4,di:=[],results:=[.box 4 1 11 true],body:=
 (.seq (.g [.o 3 (.iA 0 11) [.T 1],
 .o 4 (.aN 1 [.i 0,.i 0,.str [],.str [],.i 0,.U,.i 0,.i 0,.i 0,.i 0,.i 0]) []] []) (.seq
 (.block 0 (.loop OI)) (.seq (.g [.o 43 (.aL 0 true 11 false) [.t 3],.n (.aj 1 11) [.t 4,.T 43]] [3]) .ret))) }
def rG:aD:={ eZ:=138,mode:=.mR,aE:=1,aM:=2,di:=[],results:=[.box 2 0 11 true],body:=
 (.seq (.g [
 .o 2 (.aN 0 [.i 0,.i 0,.str [],.str [],.i 0,.U,.i 0,.i 0,.i 0,.i 0,.i 0]) []] []) (.seq
 (.g [.m 6 (.t 0),.c 7 20 [.t 6],.o 3 (.aN 1 [.i 0,.str [],.i 0,.i 0]) [],
 .n (.aj 1 4) [.t 3,.t 7]] [6,7]) (.seq (.block 0 (.seq (.g [.m 9 (.t 0),.c 10 19 [.t 9],.m 11 (.t 10),
 .y 12 (.fieldAddr 0) [.t 3] 11,.y 13 (.aL 1 false 1 false) [.t 12] 11,.y 14 (.aJ .eql) [.t 13,.i 2] 11,
 .o 15 .pick [.t 11,.t 14,.b false],.m 8 (.t 15)] [9,10,11,12,13,14,15]) (.cond (.T 8) [] (.seq (.g [.m 16 (.t 0),
 .o 17 .nilCheck [.t 16],.f 18 1 (.T 17),.d 19 (.T 18),.o 20 (.aJ .add) [.t 19,.i 1],
 .o 21 .nilCheck [.t 16],.f 22 1 (.T 21),.n (.store 1) [.T 22,.t 20]] [0,16,19,20]) (.seq (.g [.f 23 2 (.t 3),
 .l 24 1 (.t 23),.f 25 3 (.t 3),.l 26 1 (.t 25),
 .o 27 (.build [.i 0,.i 0,.str [],.str [],.i 0,.U,.i 0,.i 0,.i 0,.i 0,.i 0] [(0,1),(1,1),(6,1)]) [.i 1,.t 24,.t 26],
 .n (.aj 0 11) [.t 2,.T 27]] [3,23,24,25,26]) .ret)) [] (.seq (.seq (.g [.m 29 (.t 0),
 .c 30 21 [.t 29,.const (.str [116,114,117,101])],.m 28 (.t 30)] [29,30]) (.cond (.t 28) [] .skip [28] (.g [.m 31 (.t 0),
 .c 32 21 [.t 31,.const (.str [102,97,108,115,101])],.m 28 (.t 32)] [31,32]))) (.cond (.T 28) [] (.seq (.g [.m 33 (.t 0),
 .o 34 .nilCheck [.t 33],.f 35 1 (.T 34),.d 36 (.T 35),.o 37 (.aJ .add) [.t 36,.i 1],
 .o 38 .nilCheck [.t 33],.f 39 1 (.T 38),.n (.store 1) [.T 39,.t 37]] [0,33,36,37]) (.seq (.g [
 .m 4 (.i 0)] []) (.seq (.seq (.g [.f 40 1 (.t 3),.l 41 1 (.t 40),
 .o 42 (.aJ .eql) [.t 41,.const (.str [116,114,117,101])]] [40,41]) (.cond (.T 42) [4] (.g [.m 4 (.i 1)] []) [] .skip))
 (.seq (.g [.m 43 (.t 4),.f 44 3 (.t 3),.l 45 1 (.t 44),
 .o 46 (.build [.i 0,.i 0,.str [],.str [],.i 0,.U,.i 0,.i 0,.i 0,.i 0,.i 0] [(0,1),(1,1),(6,1)]) [.i 2,.t 43,.t 45],
 .n (.aj 0 11) [.t 2,.T 46]] [3,4,43,44,45]) .ret)))) [] (.seq (.g [.m 48 (.t 0),
 .c 49 21 [.t 48,.const (.str [110,117,108,108])],.m 47 (.t 49)] [48,49]) (.cond (.T 47) [] (.seq (.g [.m 50 (.t 0),
 .o 51 .nilCheck [.t 50],.f 52 1 (.T 51),.d 53 (.T 52),.o 54 (.aJ .add) [.t 53,.i 1],
 .o 55 .nilCheck [.t 50],.f 56 1 (.T 55),.n (.store 1) [.T 56,.t 54]] [50,53,54]) (.seq (.r [.m 57 (.t 0),
 .c 58 42 [.t 57],.f 59 3 (.t 3),.l 60 1 (.t 59),
 .o 61 (.build [.i 0,.i 0,.str [],.str [],.i 0,.U,.i 0,.i 0,.i 0,.i 0,.i 0] [(0,1),(3,2),(6,1)]) [.i 3,.t 58,.t 60],
 .n (.aj 0 11) [.t 2,.T 61]] (some []) [0,3,57,58,59,60]) .ret)) [] (.seq (.g [.m 63 (.t 0),
 .c 64 21 [.t 63,.const (.str [110,101,119])],.m 62 (.t 64)] [63,64]) (.cond (.T 62) [] (.seq (.g [.m 65 (.t 0),
 .o 66 .nilCheck [.t 65],.f 67 1 (.T 66),.d 68 (.T 67),.o 69 (.aJ .add) [.t 68,.i 1],
 .o 70 .nilCheck [.t 65],.f 71 1 (.T 70),.n (.store 1) [.T 71,.t 69]] [65,68,69]) (.seq (.g [.m 72 (.t 0),
 .f 73 3 (.t 3),.l 74 1 (.t 73),.c 75 161 [.t 72,.t 74],.n (.aj 0 11) [.t 2,.T 75]] [0,3,72,73,74])
 .ret)) [] (.seq (.g [.m 77 (.t 0),.c 78 21 [.t 77,.const (.str [108,101,110])],.m 76 (.t 78)] [77,78]) (.cond (.T 76) []
 (.seq (.g [.m 79 (.t 0),.o 80 .nilCheck [.t 79],.f 81 1 (.T 80),.d 82 (.T 81),
 .o 83 (.aJ .add) [.t 82,.i 1],.o 84 .nilCheck [.t 79],.f 85 1 (.T 84),.n (.store 1) [.T 85,.t 83]] [79,82,83]) (.seq
 (.r [.m 86 (.t 0),.c 87 162 [.t 86],
 .o 88 (.lit 11 1 [.i 0,.i 0,.str [],.str [],.i 0,.U,.i 0,.i 0,.i 0,.i 0,.i 0] [0]) [.T 87],
 .f 89 3 (.t 3),.l 90 1 (.t 89),
 .o 91 (.build [.i 0,.i 0,.str [],.str [],.i 0,.U,.i 0,.i 0,.i 0,.i 0,.i 0] [(0,1),(5,1),(6,1)]) [.i 10,.T 88,.t 90],
 .n (.aj 0 11) [.t 2,.T 91]] (some []) [0,3,86,89,90]) .ret)) [] (.seq (.g [.m 93 (.t 0),
 .c 94 21 [.t 93,.const (.str [114,101,97,100])],.m 92 (.t 94)] [93,94]) (.cond (.T 92) [] (.seq (.g [.m 95 (.t 0),
 .o 96 .nilCheck [.t 95],.f 97 1 (.T 96),.d 98 (.T 97),.o 99 (.aJ .add) [.t 98,.i 1],
 .o 100 .nilCheck [.t 95],.f 101 1 (.T 100),.n (.store 1) [.T 101,.t 99]] [95,98,99]) (.seq (.g [.m 102 (.t 0),
 .c 103 65 [.t 102,.const (.str [40])]] [102,103]) (.seq (.g [.m 104 (.t 0),
 .c 105 67 [.t 104,.const (.str [41])]] [0,104,105]) (.seq (.g [.f 106 3 (.t 3),.l 107 1 (.t 106),
 .o 108 (.build [.i 0,.i 0,.str [],.str [],.i 0,.U,.i 0,.i 0,.i 0,.i 0,.i 0] [(0,1),(6,1)]) [.i 11,.t 107],
 .n (.aj 0 11) [.t 2,.T 108]] [3,106,107]) .ret)))) [] (.seq (.g [.m 110 (.t 0),.c 111 21 [.t 110,.const (.str [40])],
 .m 109 (.t 111)] [110,111]) (.cond (.T 109) [3] (.seq (.g [.m 112 (.t 0),.c 113 162 [.t 112],
 .n (.aj 0 11) [.t 2,.T 113]] [0,112]) .ret) [] .skip))))))))))))))) (.seq (.g [.m 114 (.t 0),.c 115 41 [.t 114],
 .m 5 (.t 115)] [114,115]) (.seq (.seq (.g [.m 116 (.t 0),.c 117 21 [.t 116,.const (.str [40])],
 .o 118 (.un .not) [.t 117]] [116,117]) (.cond (.T 118) [0] (.seq (.g [.m 119 (.t 5),.f 120 3 (.t 3),
 .l 121 1 (.t 120),
 .o 122 (.build [.i 0,.i 0,.str [],.str [],.i 0,.U,.i 0,.i 0,.i 0,.i 0,.i 0] [(0,1),(2,1),(6,1)]) [.i 4,.t 119,.t 121],
 .n (.aj 0 11) [.t 2,.T 122]] [3,5,119,120,121]) .ret) [] .skip)) (.seq (.r [.m 123 (.t 5),.m 124 (.t 0),
 .c 125 163 [.t 124],.f 126 3 (.t 3),.l 127 1 (.t 126),
 .o 128 (.build [.i 0,.i 0,.str [],.str [],.i 0,.U,.i 0,.i 0,.i 0,.i 0,.i 0] [(0,1),(2,1),(5,1),(6,1)]) [.i 7,.t 123,.T 125,.t 127],
 .n (.aj 0 11) [.t 2,.T 128]] (some []) [0,3,5,123,124,126,127]) .ret)))))) }
def um:aD:={ eZ:=139,mode:=.pure,aE:=1,aM:=1,di:=[],results:=[.tmp 2 false],body:=
 (.seq (.g [.o 1 (.iA 0 11) [.T 0],.m 2 (.b false)] [2]) (.seq (.seq (.g [.f 3 0 (.t 1),
 .l 4 0 (.t 3)] [3]) (.block 0 (.seq (.seq (.g [.o 6 (.aJ .eql) [.t 4,.i 1],.m 5 (.t 6)] [6])
 (.cond (.t 5) [] .skip [5] (.seq (.g [.o 7 (.aJ .eql) [.t 4,.i 3],.m 5 (.t 7)] [7]) (.cond (.t 5) [] .skip [5] (.seq
 (.g [.o 8 (.aJ .eql) [.t 4,.i 4],.m 5 (.t 8)] [8]) (.cond (.t 5) [] .skip [5] (.seq (.g [
 .o 9 (.aJ .eql) [.t 4,.i 8],.m 5 (.t 9)] [9]) (.cond (.t 5) [] .skip [5] (.g [
 .o 10 (.aJ .eql) [.t 4,.i 11],.m 5 (.t 10)] [10]))))))))) (.cond (.T 5) [4] (.seq (.g [.f 11 5 (.t 1),
 .l 12 0 (.t 11),.o 13 (.len .sl) [.T 12],.o 14 (.aJ .eql) [.t 13,.i 0],.m 2 (.t 14)] [1,11,13,14])
 .ret) [] (.seq (.g [.o 16 (.aJ .eql) [.t 4,.i 2],.m 15 (.t 16)] [16]) (.cond (.T 15) [4] (.seq (.g [
 .f 17 5 (.t 1),.l 18 0 (.t 17),.o 19 (.len .sl) [.T 18],.o 20 (.aJ .eql) [.t 19,.i 0],
 .m 21 (.t 20),.y 22 (.fieldAddr 1) [.t 1] 21,.y 23 (.aL 0 false 1 false) [.t 22] 21,.y 24 (.aJ .eql) [.t 23,.i 0] 21,
 .y 25 .move [.t 24] 21,.z 26 (.fieldAddr 1) [.t 1] 25,.z 27 (.aL 0 false 1 false) [.t 26] 25,.z 28 (.aJ .eql) [.t 27,.i 1] 25,
 .y 29 .pick [.t 25,.b true,.t 28] 21,.o 30 .pick [.t 21,.t 29,.b false],
 .m 2 (.t 30)] [1,17,19,20,21,22,23,24,25,26,27,28,29,30]) .ret) [] (.seq (.g [.o 32 (.aJ .eql) [.t 4,.i 7],
 .m 31 (.t 32)] [32]) (.cond (.T 31) [1,4] (.seq (.g [.m 2 (.b true)] []) .ret) [] (.seq (.seq (.g [
 .o 34 (.aJ .eql) [.t 4,.i 5],.m 33 (.t 34)] [34]) (.cond (.t 33) [4] .skip [33] (.seq (.g [
 .o 35 (.aJ .eql) [.t 4,.i 9],.m 33 (.t 35)] [35]) (.cond (.t 33) [4] .skip [33] (.seq (.g [
 .o 36 (.aJ .eql) [.t 4,.i 10],.m 33 (.t 36)] [36]) (.cond (.t 33) [4] .skip [33] (.seq (.g [
 .o 37 (.aJ .eql) [.t 4,.i 12],.m 33 (.t 37)] [37]) (.cond (.t 33) [4] .skip [33] (.g [
 .o 38 (.aJ .eql) [.t 4,.i 13],.m 33 (.t 38)] [4,38]))))))))) (.cond (.T 33) [] (.seq (.g [.f 39 5 (.t 1),
 .l 40 0 (.t 39),.o 41 (.len .sl) [.T 40],.o 42 (.aJ .eql) [.t 41,.i 1],.m 2 (.t 42)] [1,39,41,42])
 .ret) [] .skip)))))))))) (.seq (.g [.f 43 0 (.t 1),.l 44 0 (.t 43),.o 45 (.aJ .eql) [.t 44,.i 6],
 .m 46 (.t 45),.z 47 (.fieldAddr 0) [.t 1] 46,.z 48 (.aL 0 false 1 false) [.t 47] 46,.z 49 (.aJ .geq) [.t 48,.i 14] 46,
 .z 50 .move [.t 49] 46,.y 51 (.fieldAddr 0) [.t 1] 50,.y 52 (.aL 0 false 1 false) [.t 51] 50,.y 53 (.aJ .leq) [.t 52,.i 24] 50,
 .z 54 .pick [.t 50,.t 53,.b false] 46,.o 55 .pick [.t 46,.b true,.t 54],.m 56 (.t 55),.y 57 (.fieldAddr 5) [.t 1] 56,
 .y 58 (.aL 0 false 1 false) [.t 57] 56,.y 59 (.len .sl) [.T 58] 56,.y 60 (.aJ .eql) [.t 59,.i 2] 56,
 .o 61 .pick [.t 56,.t 60,.b false],.m 2 (.t 61)] [1,43,44,45,46,47,48,49,50,51,52,53,54,55,56,57,58,59,60,61]) .ret))) }
def En:aD:={ eZ:=140,mode:=.pure,aE:=1,aM:=3,di:=[],results:=[.box 2 1 11 true],body:=
 (.seq (.g [.o 1 (.iA 0 11) [.T 0],
 .o 2 (.aN 1 [.i 0,.i 0,.str [],.str [],.i 0,.U,.i 0,.i 0,.i 0,.i 0,.i 0]) []] []) (.seq
 (.g [.f 4 0 (.t 1),.l 5 0 (.t 4),.f 6 6 (.t 1),.l 7 0 (.t 6),
 .o 8 (.build [.i 0,.i 0,.str [],.str [],.i 0,.U,.i 0,.i 0,.i 0,.i 0,.i 0] [(0,1),(6,1)]) [.t 5,.t 7],
 .o 3 (.aN 2 [.i 0,.i 0,.str [],.str [],.i 0,.U,.i 0,.i 0,.i 0,.i 0,.i 0]) [],
 .n (.aj 2 11) [.t 3,.T 8]] [4,5,6,7]) (.seq (.seq (.g [.f 9 0 (.t 1),.l 10 0 (.t 9)] [9]) (.block 0
 (.seq (.seq (.g [.o 12 (.aJ .eql) [.t 10,.i 1],.m 11 (.t 12)] [12]) (.cond (.t 11) [] .skip [11] (.g [
 .o 13 (.aJ .eql) [.t 10,.i 2],.m 11 (.t 13)] [13]))) (.cond (.T 11) [10] (.g [.f 14 1 (.t 1),
 .l 15 0 (.t 14),.f 16 1 (.t 3),.n (.aj 2 1) [.t 16,.t 15]] [1,14,15,16]) [] (.seq (.seq (.g [
 .o 18 (.aJ .eql) [.t 10,.i 3],.m 17 (.t 18)] [18]) (.cond (.t 17) [] .skip [17] (.seq (.g [
 .o 19 (.aJ .eql) [.t 10,.i 8],.m 17 (.t 19)] [19]) (.cond (.t 17) [] .skip [17] (.g [
 .o 20 (.aJ .eql) [.t 10,.i 9],.m 17 (.t 20)] [20]))))) (.cond (.T 17) [10] (.g [.f 21 3 (.t 1),
 .o 22 (.aL 0 true 2 false) [.t 21],.f 23 3 (.t 3),.n (.aj 2 2) [.t 23,.t 22]] [1,21,22,23]) [] (.seq (.seq (.g [
 .o 25 (.aJ .eql) [.t 10,.i 4],.m 24 (.t 25)] [25]) (.cond (.t 24) [10] .skip [24] (.seq (.g [
 .o 26 (.aJ .eql) [.t 10,.i 5],.m 24 (.t 26)] [26]) (.cond (.t 24) [10] .skip [24] (.g [
 .o 27 (.aJ .eql) [.t 10,.i 7],.m 24 (.t 27)] [10,27]))))) (.cond (.T 24) [] (.g [.f 28 2 (.t 1),
 .l 29 0 (.t 28),.f 30 2 (.t 3),.n (.aj 2 1) [.t 30,.t 29]] [1,28,29,30]) [1] .skip)))))))) (.seq (.g [
 .o 31 (.aL 2 true 11 false) [.t 3],.n (.aj 1 11) [.t 2,.T 31]] [3]) .ret)))) }
def kR:aD:={ eZ:=141,mode:=.mR,aE:=2,aM:=8,di:=[],results:=[.box 4 1 3 true,.tmp 5 false,.tmp 6 false],body:=
 (.seq (.g [.o 3 (.iA 0 11) [.T 1],.o 4 (.aN 1 [.i 0,.i 0,.i 0]) [],.m 5 (.i 0),
 .m 6 (.b false)] [5,6]) (.seq (.seq (.g [.f 19 0 (.t 3),.l 20 0 (.t 19)] [19])
 (.block 0 (.seq (.seq (.g [.o 22 (.aJ .eql) [.t 20,.i 1],.m 21 (.t 22)] [22]) (.cond (.t 21) [] .skip [21] (.g [
 .o 23 (.aJ .eql) [.t 20,.i 11],.m 21 (.t 23)] [23]))) (.cond (.T 21) [0,3,20] (.seq (.g [.c 24 146 [],
 .n (.aj 1 3) [.t 4,.t 24],.m 5 (.i 0),.m 6 (.b true)] [24]) .ret) [] (.seq (.g [
 .o 26 (.aJ .eql) [.t 20,.i 2],.m 25 (.t 26)] [26]) (.cond (.T 25) [0,3,20] (.seq (.g [.c 27 145 [],
 .n (.aj 1 3) [.t 4,.t 27],.m 5 (.i 0),.m 6 (.b true)] [27]) .ret) [] (.seq (.g [
 .o 29 (.aJ .eql) [.t 20,.i 3],.m 28 (.t 29)] [29]) (.cond (.T 28) [20] (.seq (.r [.m 31 (.t 0),
 .o 32 .nilCheck [.t 31],.f 33 4 (.T 32),.d 34 (.T 33),.f 35 3 (.t 3),
 .o 36 (.aL 0 true 2 false) [.t 35],.c 37 116 [.T 34,.t 36],.m 30 (.T 37),.o 38 (.extract 0) [.t 30],.o 39 (.extract 1) [.t 30],
 .o 7 (.aN 2 [.i 0,.i 0,.i 0]) [],.n (.aj 2 3) [.t 7,.t 38],.m 8 (.t 39)] (some []) [0,3,30,31,35,36,38,39]) (.seq
 (.r [.o 40 (.aL 2 true 3 false) [.t 7],.m 41 (.t 8),.m 42 (.t 41),.y 43 (.aL 2 true 3 false) [.t 7] 42,
 .y 44 (.call 164) [.t 43] 42,.o 45 .pick [.t 42,.t 44,.b false],.n (.aj 1 3) [.t 4,.t 40],.m 5 (.i 0),
 .m 6 (.t 45)] (some []) [7,8,40,41,42,43,44,45]) .ret)) [] (.seq (.g [.o 47 (.aJ .eql) [.t 20,.i 4],
 .m 46 (.t 47)] [47]) (.cond (.T 46) [20] (.seq (.g [.m 49 (.t 0),.f 50 2 (.t 3),.l 51 0 (.t 50),
 .c 52 144 [.t 49,.t 51],.m 48 (.T 52),.o 53 (.extract 0) [.t 48],.o 54 (.extract 1) [.t 48],.o 55 (.extract 2) [.T 48],
 .o 10 (.aN 3 [.i 0,.i 0,.i 0]) [],.m 9 (.t 53),.n (.aj 3 3) [.t 10,.t 54],
 .m 11 (.t 55)] [0,3,49,50,51,53,54,55]) (.seq (.g [.o 56 (.aL 3 true 3 false) [.t 10],.m 57 (.t 9),.m 58 (.t 11),
 .n (.aj 1 3) [.t 4,.t 56],.m 5 (.t 57),.m 6 (.t 58)] [9,10,11,56,57,58]) .ret)) [] (.seq (.g [
 .o 60 (.aJ .eql) [.t 20,.i 5],.m 59 (.t 60)] [60]) (.cond (.T 59) [20] (.seq (.g [.m 61 (.t 0),
 .o 62 (.aL 0 true 11 false) [.t 3],.c 63 165 [.t 61,.T 62],.o 64 (.extract 0) [.t 63],.o 65 (.extract 1) [.t 63],.o 66 (.extract 2) [.T 63],
 .n (.aj 1 3) [.t 4,.t 64],.m 5 (.t 65),.m 6 (.t 66)] [0,3,61,64,65,66]) .ret) [] (.seq (.g [
 .o 68 (.aJ .eql) [.t 20,.i 6],.m 67 (.t 68)] [68]) (.cond (.T 67) [0,20] (.seq (.g [.f 69 5 (.t 3),
 .l 70 0 (.t 69),.o 71 (.indexAddr 11) [.T 70,.i 0],.f 72 7 (.T 71),.o 73 (.load true 3 false) [.T 72],
 .o 12 (.aN 4 [.i 0,.i 0,.i 0]) [],.n (.aj 4 3) [.t 12,.t 73]] [69,73]) (.seq (.r [.f 74 2 (.t 12),
 .l 75 4 (.t 74),.o 76 (.aJ .gtr) [.t 75,.i 0],.m 77 (.t 76),.y 78 (.fieldAddr 5) [.t 3] 77,
 .y 79 (.aL 0 false 1 false) [.t 78] 77,.y 80 (.indexAddr 11) [.T 79,.i 1] 77,.y 81 (.fieldAddr 7) [.T 80] 77,
 .y 82 (.load true 3 false) [.T 81] 77,.y 83 (.call 146) [] 77,.y 84 (.BH (.flat [.int,.int,.int]) false) [.t 82,.t 83] 77,
 .o 85 .pick [.t 77,.t 84,.b false],.m 13 (.t 85)] (some []) [3,74,75,76,77,78,79,80,81,82,83,84,85]) (.seq (.g [
 .f 86 2 (.t 12),.l 87 4 (.t 86),.o 88 (.aJ .sub) [.t 87,.i 1],.f 89 2 (.t 12),
 .n (.aj 4 1) [.t 89,.t 88]] [86,87,88,89]) (.seq (.g [.o 90 (.aL 4 true 3 false) [.t 12],.m 91 (.t 13),
 .n (.aj 1 3) [.t 4,.t 90],.m 5 (.i 0),.m 6 (.t 91)] [12,13,90,91]) .ret)))) [] (.seq (.g [
 .o 93 (.aJ .eql) [.t 20,.i 7],.m 92 (.t 93)] [93]) (.cond (.T 92) [20] (.seq (.g [.m 94 (.t 0),
 .o 95 (.aL 0 true 11 false) [.t 3],.c 96 166 [.t 94,.T 95],.o 97 (.extract 0) [.t 96],.o 98 (.extract 1) [.t 96],.o 99 (.extract 2) [.T 96],
 .n (.aj 1 3) [.t 4,.t 97],.m 5 (.t 98),.m 6 (.t 99)] [0,3,94,97,98,99]) .ret) [] (.seq (.g [
 .o 101 (.aJ .eql) [.t 20,.i 8],.m 100 (.t 101)] [101]) (.cond (.T 100) [20] (.seq (.r [.m 103 (.t 0),
 .o 104 .nilCheck [.t 103],.f 105 4 (.T 104),.d 106 (.T 105),.f 107 3 (.t 3),
 .o 108 (.aL 0 true 2 false) [.t 107],.c 109 116 [.T 106,.t 108],.m 102 (.T 109),.o 110 (.extract 0) [.t 102],
 .o 111 (.extract 1) [.t 102],.o 14 (.aN 5 [.i 0,.i 0,.i 0]) [],.n (.aj 5 3) [.t 14,.t 110],
 .m 15 (.t 111)] (some []) [0,3,102,103,107,108,110,111]) (.seq (.r [.o 112 (.aL 5 true 3 false) [.t 14],.m 113 (.t 15),
 .m 114 (.t 113),.y 115 (.fieldAddr 0) [.t 14] 114,.y 116 (.aL 5 false 1 false) [.t 115] 114,.y 117 (.aJ .eql) [.t 116,.i 3] 114,
 .o 118 .pick [.t 114,.t 117,.b false],.m 119 (.t 118),.y 120 (.fieldAddr 2) [.t 14] 119,.y 121 (.aL 5 false 1 false) [.t 120] 119,
 .y 122 (.aJ .eql) [.t 121,.i 0] 119,.o 123 .pick [.t 119,.t 122,.b false],.n (.aj 1 3) [.t 4,.t 112],
 .m 5 (.i 0),.m 6 (.t 123)] (some []) [14,15,112,113,114,115,116,117,118,119,120,121,122,123]) .ret)) [] (.seq (.g [
 .o 125 (.aJ .eql) [.t 20,.i 9],.m 124 (.t 125)] [125]) (.cond (.T 124) [20] (.seq (.r [.m 127 (.t 0),
 .o 128 .nilCheck [.t 127],.f 129 4 (.T 128),.d 130 (.T 129),.f 131 3 (.t 3),
 .o 132 (.aL 0 true 2 false) [.t 131],.c 133 116 [.T 130,.t 132],.m 126 (.T 133),.o 134 (.extract 0) [.t 126],
 .o 135 (.extract 1) [.t 126],.o 16 (.aN 6 [.i 0,.i 0,.i 0]) [],.n (.aj 6 3) [.t 16,.t 134],
 .m 17 (.t 135)] (some []) [0,126,127,131,132,134,135]) (.seq (.r [.m 136 (.t 17),.m 137 (.t 136),.y 138 (.fieldAddr 2) [.t 16] 137,
 .y 139 (.aL 6 false 1 false) [.t 138] 137,.y 140 (.aJ .lss) [.t 139,.i 3] 137,.o 141 .pick [.t 137,.t 140,.b false],
 .m 142 (.t 141),.y 143 (.fieldAddr 5) [.t 3] 142,.y 144 (.aL 0 false 1 false) [.t 143] 142,
 .y 145 (.indexAddr 11) [.T 144,.i 0] 142,.y 146 (.fieldAddr 7) [.T 145] 142,.y 147 (.load true 3 false) [.T 146] 142,
 .y 148 (.call 146) [] 142,.y 149 (.BH (.flat [.int,.int,.int]) false) [.t 147,.t 148] 142,.o 150 .pick [.t 142,.t 149,.b false],
 .m 17 (.t 150)] (some []) [3,136,137,138,139,140,141,142,143,144,145,146,147,148,149,150]) (.seq (.g [.f 151 2 (.t 16),
 .l 152 6 (.t 151),.o 153 (.aJ .add) [.t 152,.i 1],.f 154 2 (.t 16),
 .n (.aj 6 1) [.t 154,.t 153]] [151,152,153,154]) (.seq (.g [.o 155 (.aL 6 true 3 false) [.t 16],.m 156 (.t 17),
 .n (.aj 1 3) [.t 4,.t 155],.m 5 (.i 0),.m 6 (.t 156)] [16,17,155,156]) .ret)))) [] (.seq (.g [
 .o 158 (.aJ .eql) [.t 20,.i 10],.m 157 (.t 158)] [158]) (.cond (.T 157) [0,20] (.seq (.r [.c 159 146 [],
 .f 160 5 (.t 3),.l 161 0 (.t 160),.o 162 (.indexAddr 11) [.T 161,.i 0],.f 163 7 (.T 162),
 .f 164 2 (.T 163),.d 165 (.T 164),.o 166 (.aJ .gtr) [.t 165,.i 0],.n (.aj 1 3) [.t 4,.t 159],
 .m 5 (.i 0),.m 6 (.t 166)] (some []) [3,159,160,165,166]) .ret) [] (.seq (.seq (.g [
 .o 168 (.aJ .eql) [.t 20,.i 12],.m 167 (.t 168)] [168]) (.cond (.t 167) [20] .skip [167] (.g [
 .o 169 (.aJ .eql) [.t 20,.i 13],.m 167 (.t 169)] [20,169]))) (.cond (.T 167) [0] (.seq (.g [.c 170 146 [],
 .o 18 (.aN 7 [.i 0,.i 0,.i 0]) [],.n (.aj 7 3) [.t 18,.t 170]] [170]) (.seq (.seq (.g [.f 171 0 (.t 3),
 .l 172 0 (.t 171),.o 173 (.aJ .eql) [.t 172,.i 13]] [171,172]) (.cond (.T 173) [] (.g [
 .c 174 145 [],.n (.aj 7 3) [.t 18,.t 174]] [174]) [] .skip)) (.seq (.r [.o 175 (.aL 7 true 3 false) [.t 18],
 .f 176 5 (.t 3),.l 177 0 (.t 176),.o 178 (.indexAddr 11) [.T 177,.i 0],.f 179 7 (.T 178),
 .o 180 (.load true 3 false) [.T 179],.o 181 (.aL 7 true 3 false) [.t 18],.o 182 (.BH (.flat [.int,.int,.int]) false) [.t 180,.t 181],
 .n (.aj 1 3) [.t 4,.t 175],.m 5 (.i 0),.m 6 (.t 182)] (some []) [3,18,175,176,180,181,182]) .ret))) []
 .skip)))))))))))))))))))))))) (.seq (.g [.m 183 (.t 0),.o 184 (.aL 0 true 11 false) [.t 3],.c 185 167 [.t 183,.T 184],
 .o 186 (.extract 0) [.t 185],.o 187 (.extract 1) [.t 185],.o 188 (.extract 2) [.T 185],.n (.aj 1 3) [.t 4,.t 186],.m 5 (.t 187),
 .m 6 (.t 188)] [0,3,183,186,187,188]) .ret))) }
def KX:aD:={ eZ:=142,mode:=.mR,aE:=2,aM:=3,di:=[],results:=[.box 4 1 11 true],body:=
 (.seq (.g [.o 3 (.iA 0 11) [.T 1],
 .o 4 (.aN 1 [.i 0,.i 0,.str [],.str [],.i 0,.U,.i 0,.i 0,.i 0,.i 0,.i 0]) []] []) (.seq
 (.g [.m 6 (.t 0),.o 7 (.aL 0 true 11 false) [.t 3],.c 8 120 [.t 6,.T 7],
 .o 5 (.aN 2 [.i 0,.i 0,.str [],.str [],.i 0,.U,.i 0,.i 0,.i 0,.i 0,.i 0]) [],
 .n (.aj 2 11) [.t 5,.T 8]] [3,6]) (.seq (.seq (.r [.f 9 7 (.t 5),.o 10 (.aL 2 true 3 false) [.t 9],.c 11 117 [],
 .o 12 (.BH (.flat [.int,.int,.int]) false) [.t 10,.t 11]] (some []) [9,10,11]) (.cond (.T 12) [] (.g [.m 13 (.t 0),.f 14 6 (.t 5),
 .l 15 2 (.t 14),.c 16 119 [.t 13,.t 15]] [0,13,14,15,16]) [0] .skip)) (.seq (.g [
 .o 17 (.aL 2 true 11 false) [.t 5],.n (.aj 1 11) [.t 4,.T 17]] [5]) .ret)))) }
def Yp:aD:={ eZ:=143,mode:=.mR,aE:=3,aM:=1,di:=[],results:=[.tmp 6 false,.tmp 7 false],body:=
 (.seq (.g [.o 5 (.iA 0 3) [.t 2],.m 6 (.i 0),.m 7 (.b false)] [2,6,7]) (.seq (.seq (.g [
 .m 8 (.t 0),.o 9 .nilCheck [.t 8],.f 10 11 (.T 9),.d 11 (.T 10),.m 12 (.t 1),
 .c 13 168 [.T 11,.t 12],.o 14 (.aJ .geq) [.t 13,.i 0]] [8,12,13]) (.cond (.T 14) [0,1,5] (.seq (.g [
 .m 6 (.i 0),.m 7 (.b false)] []) .ret) [] .skip)) (.seq (.r [.m 15 (.t 0),.m 16 (.t 0),
 .o 17 .nilCheck [.t 16],.f 18 11 (.T 17),.o 19 (.load false 1 true) [.T 18],.m 20 (.t 1),.o 21 (.aL 0 true 3 false) [.t 5],
 .o 22 (.build [.str [],.i 0,.i 0,.i 0] [(0,1),(1,3)]) [.t 20,.t 21],
 .o 23 (.lit 4 1 [.str [],.i 0,.i 0,.i 0] [0]) [.t 22],.o 24 (.append 4 40) [.T 19,.T 23],.o 25 .nilCheck [.t 15],
 .f 26 11 (.T 25),.n (.store 1) [.T 26,.T 24]] (some []) [1,5,15,16,20,21,22]) (.seq (.g [.m 27 (.t 0),.o 28 .nilCheck [.t 27],
 .f 29 11 (.T 28),.d 30 (.T 29),.o 31 (.len .sl) [.T 30],.o 32 (.aJ .sub) [.t 31,.i 1],
 .m 6 (.t 32),.m 7 (.b true)] [0,27,31,32]) .ret)))) }
def Uy:aD:={ eZ:=144,mode:=.mR,aE:=2,aM:=1,di:=[],results:=[.tmp 4 false,.box 5 0 3 true,.tmp 6 false],body:=
 (.seq (.g [.m 4 (.i 0),.o 5 (.aN 0 [.i 0,.i 0,.i 0]) [],.m 6 (.b false)] [4,6])
 (.seq (.seq (.g [.m 9 (.t 0),.o 10 .nilCheck [.t 9],.f 11 11 (.T 10),.d 12 (.T 11),.m 13 (.t 1),
 .c 14 168 [.T 12,.t 13],.m 7 (.t 14)] [9,13,14]) (.seq (.g [.m 15 (.t 7),
 .o 16 (.aJ .geq) [.t 15,.i 0]] [15]) (.cond (.T 16) [1] (.seq (.r [.m 17 (.t 7),.m 18 (.t 0),
 .o 19 .nilCheck [.t 18],.f 20 11 (.T 19),.d 21 (.T 20),.m 22 (.t 7),.o 23 (.indexAddr 4) [.T 21,.t 22],
 .f 24 1 (.T 23),.o 25 (.load true 3 false) [.T 24],.m 4 (.t 17),.n (.aj 0 3) [.t 5,.t 25],
 .m 6 (.b true)] (some []) [0,7,17,18,22,25]) .ret) [7] .skip))) (.seq (.seq (.g [.m 26 (.t 0),.o 27 .nilCheck [.t 26],
 .f 28 0 (.T 27),.f 29 1 (.T 28),.d 30 (.T 29),.m 31 (.t 1),.c 32 168 [.T 30,.t 31],
 .m 8 (.t 32)] [1,26,31,32]) (.seq (.g [.m 33 (.t 8),.o 34 (.aJ .geq) [.t 33,.i 0]] [33]) (.cond (.T 34) [] (.seq
 (.r [.m 35 (.t 8),.o 36 (.aJ .sub) [.const (.i (-1)),.t 35],.m 37 (.t 0),.o 38 .nilCheck [.t 37],.f 39 0 (.T 38),
 .f 40 1 (.T 39),.d 41 (.T 40),.m 42 (.t 8),.o 43 (.indexAddr 4) [.T 41,.t 42],.f 44 1 (.T 43),
 .o 45 (.load true 3 false) [.T 44],.m 4 (.t 36),.n (.aj 0 3) [.t 5,.t 45],.m 6 (.b true)] (some []) [0,8,35,36,37,42,45])
 .ret) [0,8] .skip))) (.seq (.g [.c 46 117 [],.m 4 (.i 0),.n (.aj 0 3) [.t 5,.t 46],
 .m 6 (.b false)] [46]) .ret)))) }
def acL:aD:={ eZ:=145,mode:=.pure,aE:=0,aM:=1,di:=[],results:=[.box 0 0 3 true],body:=
 (.seq (.g [.o 0 (.aN 0 [.i 0,.i 0,.i 0]) []] []) (.seq (.g [
 .o 1 (.build [.i 0,.i 0,.i 0] [(0,1)]) [.i 2],.n (.aj 0 3) [.t 0,.t 1]] [1]) .ret)) }
def acM:aD:={ eZ:=146,mode:=.pure,aE:=0,aM:=1,di:=[],results:=[.box 0 0 3 true],body:=
 (.seq (.g [.o 0 (.aN 0 [.i 0,.i 0,.i 0]) []] []) (.seq (.g [
 .o 1 (.build [.i 0,.i 0,.i 0] [(0,1)]) [.i 1],.n (.aj 0 3) [.t 0,.t 1]] [1]) .ret)) }
def acN:aD:={ eZ:=147,mode:=.mR,aE:=3,aM:=0,di:=[],results:=[.tmp 6 false],body:=
 (.seq (.g [.m 6 (.i 0)] [6]) (.seq (.g [.m 7 (.t 0),.m 8 (.t 2),
 .c 9 48 [.t 7,.t 8]] [0,2,7,8,9]) (.seq (.g [.m 10 (.t 1),.m 6 (.t 10)] [1,10]) .ret))) }
def Yq:aD:={ eZ:=148,mode:=.mR,aE:=3,aM:=0,di:=[],results:=[.tmp 6 false,.tmp 7 false],body:=
 (.seq (.g [.m 6 (.i 0),.m 7 (.i 0)] [6,7]) (.seq (.g [.m 11 (.t 0),.m 12 (.t 1),
 .m 13 (.t 2),.c 14 156 [.t 11,.t 12,.t 13],.m 10 (.T 14),.o 15 (.extract 0) [.t 10],.o 16 (.extract 1) [.T 10],.m 8 (.t 15),
 .m 9 (.t 16)] [0,1,2,11,12,13,15,16]) (.seq (.seq (.g [.m 17 (.t 9),.o 18 (.aJ .neq) [.t 17,.i 0]] [17])
 (.cond (.T 18) [8] (.seq (.g [.m 19 (.t 9),.m 6 (.i 0),.m 7 (.t 19)] [9,19]) .ret) [9] .skip)) (.seq (.g [
 .m 20 (.t 8),.o 21 .nilCheck [.t 20],.d 22 (.T 21),.m 6 (.t 22),.m 7 (.i 0)] [8,20,22])
 .ret)))) }
def Yr:aD:={ eZ:=149,mode:=.mR,aE:=2,aM:=0,di:=[],results:=[.tmp 4 false,.tmp 5 false],body:=
 (.seq (.g [.m 4 (.i 0),.m 5 (.i 0)] [4,5]) (.seq (.g [.m 9 (.t 0),.m 10 (.t 1),
 .c 11 169 [.t 9,.t 10],.m 8 (.T 11),.o 12 (.extract 0) [.t 8],.o 13 (.extract 1) [.T 8],.m 6 (.T 12),
 .m 7 (.t 13)] [0,1,9,10,13]) (.seq (.seq (.g [.m 14 (.t 7),.o 15 (.un .not) [.t 14]] [7,14]) (.cond (.T 15) [6] (.seq (.g [
 .m 4 (.i 0),.m 5 (.i 1)] []) .ret) [] .skip)) (.seq (.g [.m 16 (.T 6),.o 17 (.len .sl) [.T 16],
 .m 4 (.t 17),.m 5 (.i 0)] [17]) .ret)))) }
def Uz:aD:={ eZ:=150,mode:=.CN,aE:=2,aM:=0,di:=[],results:=[.tmp 4 false],body:=
 (.seq (.g [.m 4 (.i 0)] [4]) (.seq (.seq (.g [.m 5 (.t 0),
 .o 6 (.BH .ptr false) [.t 5,.const .cY]] [5]) (.cond (.T 6) [0,1] (.seq (.g [.m 4 (.i 0)] []) .ret) [] .skip))
 (.seq (.g [.m 7 (.t 0),.m 8 (.t 1),.o 9 (.yF true) [.t 8,.i 0],.o 10 (.yF false) [.t 9,.i 8],
 .c 11 170 [.t 7,.t 10],.m 4 (.t 11)] [0,1,7,8,9,10,11]) .ret))) }
def QY:aD:={ eZ:=151,mode:=.CN,aE:=2,aM:=0,di:=[],results:=[.tmp 4 false,.tmp 5 false],body:=
 (.seq (.g [.m 4 (.i 0),.m 5 (.i 0)] [4,5]) (.seq (.block 0 (.seq (.g [.m 7 (.t 0),
 .o 8 (.BH .ptr false) [.t 7,.const .cY],.m 6 (.t 8)] [7,8]) (.cond (.T 6) [0,1] (.seq (.g [.m 4 (.i 0),
 .m 5 (.i 1)] []) .ret) [] (.seq (.g [.m 10 (.t 1),.o 11 (.aJ .lss) [.t 10,.i 0],.m 12 (.t 11),
 .z 13 .move [.t 1] 12,.z 14 (.aJ .gtr) [.t 13,.i 50] 12,.o 15 .pick [.t 12,.b true,.t 14],
 .m 9 (.t 15)] [10,11,12,13,14,15]) (.cond (.T 9) [0,1] (.seq (.g [.m 4 (.i 0),
 .m 5 (.i 4)] []) .ret) [] .skip))))) (.seq (.g [.m 16 (.t 0),.m 17 (.t 1),.c 18 170 [.t 16,.t 17],
 .m 4 (.t 18),.m 5 (.i 0)] [0,1,16,17,18]) .ret))) }
def UA:aD:={ eZ:=152,mode:=.mR,aE:=1,aM:=0,di:=[],results:=[.tmp 2 false],body:=
 (.seq (.g [.m 2 (.i 0)] [2]) (.seq (.seq (.g [.m 4 (.t 0),.o 5 .nilCheck [.t 4],.f 6 6 (.T 5),
 .d 7 (.T 6),.o 8 (.len .sl) [.T 7],.o 9 (.aJ .eql) [.t 8,.i 0]] [4,8]) (.cond (.T 9) [] (.seq (.g [
 .m 10 (.t 0),.c 11 48 [.t 10,.i 5]] [0,10,11]) (.seq (.g [.m 2 (.i 0)] []) .ret)) []
 .skip)) (.seq (.g [.m 12 (.t 0),.o 13 .nilCheck [.t 12],.f 14 6 (.T 13),.d 15 (.T 14),
 .o 16 (.indexAddr 1) [.T 15,.i 0],.d 17 (.T 16),.m 3 (.t 17)] [12,17]) (.seq (.g [.m 18 (.t 0),
 .m 19 (.t 0),.o 20 .nilCheck [.t 19],.f 21 6 (.T 20),.d 22 (.T 21),
 .o 23 (.slice false true false false 1) [.T 22,.i 1],.o 24 .nilCheck [.t 18],.f 25 6 (.T 24),
 .n (.store 1) [.T 25,.T 23]] [0,18,19]) (.seq (.g [.m 26 (.t 3),.m 2 (.t 26)] [3,26]) .ret))))) }
def UB:aD:={ eZ:=153,mode:=.pure,aE:=2,aM:=0,di:=[],results:=[.tmp 4 false],body:=
 (.seq (.g [.m 4 (.i 0)] [4]) (.seq (.seq (.g [.m 5 (.t 0)] [0]) (.block 0 (.seq (.g [
 .o 7 (.aJ .eql) [.t 5,.i 12],.m 6 (.t 7)] [7]) (.cond (.T 6) [5] (.seq (.g [.m 8 (.t 1),.o 9 (.un .neg) [.t 8],
 .m 4 (.t 9)] [1,8,9]) .ret) [] (.seq (.g [.o 11 (.aJ .eql) [.t 5,.i 13],.m 10 (.t 11)] [5,11]) (.cond (.T 10) []
 (.seq (.g [.m 12 (.t 1),.o 13 (.aJ .eql) [.t 12,.i 0],.c 14 171 [.t 13],.m 4 (.t 14)] [1,12,13,14])
 .ret) [1] .skip)))))) (.seq (.g [.m 4 (.i 0)] []) .ret))) }
def uo:aD:={ eZ:=154,mode:=.pure,aE:=3,aM:=0,di:=[],results:=[.tmp 6 false,.tmp 7 false],body:=
 (.seq (.g [.m 6 (.i 0),.m 7 (.i 0)] [6,7]) (.seq (.seq (.g [.m 8 (.t 0)] [])
 (.block 0 (.seq (.g [.o 10 (.aJ .eql) [.t 8,.i 14],.m 9 (.t 10)] [10]) (.cond (.T 9) [0,8] (.seq (.g [
 .m 11 (.t 1),.m 12 (.t 2),.o 13 (.aJ .add) [.t 11,.t 12],.m 6 (.t 13),.m 7 (.i 0)] [1,2,11,12,13]) .ret) []
 (.seq (.g [.o 15 (.aJ .eql) [.t 8,.i 15],.m 14 (.t 15)] [15]) (.cond (.T 14) [0,8] (.seq (.g [.m 16 (.t 1),
 .m 17 (.t 2),.o 18 (.aJ .sub) [.t 16,.t 17],.m 6 (.t 18),.m 7 (.i 0)] [1,2,16,17,18]) .ret) [] (.seq (.g [
 .o 20 (.aJ .eql) [.t 8,.i 16],.m 19 (.t 20)] [20]) (.cond (.T 19) [0,8] (.seq (.g [.m 21 (.t 1),.m 22 (.t 2),
 .o 23 (.aJ .mul) [.t 21,.t 22],.m 6 (.t 23),.m 7 (.i 0)] [1,2,21,22,23]) .ret) [] (.seq (.seq (.g [
 .o 25 (.aJ .eql) [.t 8,.i 17],.m 24 (.t 25)] [25]) (.cond (.t 24) [] .skip [24] (.g [
 .o 26 (.aJ .eql) [.t 8,.i 18],.m 24 (.t 26)] [26]))) (.cond (.T 24) [8] (.seq (.seq (.g [.m 27 (.t 2),
 .o 28 (.aJ .eql) [.t 27,.i 0]] [27]) (.cond (.T 28) [0,1,2] (.seq (.g [.m 6 (.i 0),
 .m 7 (.i 3)] []) .ret) [] .skip)) (.seq (.seq (.g [.m 29 (.t 0),
 .o 30 (.aJ .eql) [.t 29,.i 17]] [0,29]) (.cond (.T 30) [] (.seq (.g [.m 31 (.t 1),.m 32 (.t 2),
 .o 33 (.aJ .quo) [.t 31,.t 32],.m 6 (.t 33),.m 7 (.i 0)] [1,2,31,32,33]) .ret) [] .skip)) (.seq (.g [
 .m 34 (.t 1),.m 35 (.t 2),.o 36 (.aJ .rem) [.t 34,.t 35],.m 6 (.t 36),.m 7 (.i 0)] [1,2,34,35,36])
 .ret))) [0] (.seq (.g [.o 38 (.aJ .eql) [.t 8,.i 19],.m 37 (.t 38)] [38]) (.cond (.T 37) [8] (.seq (.g [
 .m 39 (.t 1),.m 40 (.t 2),.o 41 (.aJ .lss) [.t 39,.t 40],.c 42 171 [.t 41],.m 6 (.t 42),
 .m 7 (.i 0)] [1,2,39,40,41,42]) .ret) [] (.seq (.g [.o 44 (.aJ .eql) [.t 8,.i 20],
 .m 43 (.t 44)] [44]) (.cond (.T 43) [8] (.seq (.g [.m 45 (.t 1),.m 46 (.t 2),.o 47 (.aJ .leq) [.t 45,.t 46],
 .c 48 171 [.t 47],.m 6 (.t 48),.m 7 (.i 0)] [1,2,45,46,47,48]) .ret) [] (.seq (.g [
 .o 50 (.aJ .eql) [.t 8,.i 21],.m 49 (.t 50)] [50]) (.cond (.T 49) [8] (.seq (.g [.m 51 (.t 1),.m 52 (.t 2),
 .o 53 (.aJ .eql) [.t 51,.t 52],.c 54 171 [.t 53],.m 6 (.t 54),.m 7 (.i 0)] [1,2,51,52,53,54]) .ret) [] (.seq
 (.g [.o 56 (.aJ .eql) [.t 8,.i 22],.m 55 (.t 56)] [56]) (.cond (.T 55) [8] (.seq (.g [.m 57 (.t 1),
 .m 58 (.t 2),.o 59 (.aJ .neq) [.t 57,.t 58],.c 60 171 [.t 59],.m 6 (.t 60),.m 7 (.i 0)] [1,2,57,58,59,60])
 .ret) [] (.seq (.g [.o 62 (.aJ .eql) [.t 8,.i 23],.m 61 (.t 62)] [62]) (.cond (.T 61) [8] (.seq (.g [
 .m 63 (.t 1),.o 64 (.aJ .neq) [.t 63,.i 0],.m 65 (.t 64),.y 66 .move [.t 2] 65,
 .y 67 (.aJ .neq) [.t 66,.i 0] 65,.o 68 .pick [.t 65,.t 67,.b false],.c 69 171 [.t 68],.m 6 (.t 69),
 .m 7 (.i 0)] [1,2,63,64,65,66,67,68,69]) .ret) [] (.seq (.g [.o 71 (.aJ .eql) [.t 8,.i 24],
 .m 70 (.t 71)] [8,71]) (.cond (.T 70) [] (.seq (.g [.m 72 (.t 1),.o 73 (.aJ .neq) [.t 72,.i 0],.m 74 (.t 73),
 .z 75 .move [.t 2] 74,.z 76 (.aJ .neq) [.t 75,.i 0] 74,.o 77 .pick [.t 74,.b true,.t 76],.c 78 171 [.t 77],
 .m 6 (.t 78),.m 7 (.i 0)] [1,2,72,73,74,75,76,77,78]) .ret) [1,2] .skip)))))))))))))))))))))) (.seq (.g [
 .m 6 (.i 0),.m 7 (.i 0)] []) .ret))) }
def acO:aD:={ eZ:=155,mode:=.CN,aE:=2,aM:=0,di:=[],results:=[.tmp 4 true],body:=
 (.seq (.g [.o 4 .move [.const .U]] [4]) (.seq (.seq (.g [.m 5 (.t 1),.o 6 (.aJ .lss) [.t 5,.i 0]] [5])
 (.cond (.T 6) [] (.g [.o 7 (.pW 0) [],.n (.pW 0) []] [7]) [] .skip)) (.seq (.seq (.g [.m 8 (.t 1),.m 9 (.t 0),
 .o 10 .Qd [.T 9],.m 11 (.t 0),.o 12 (.len .sl) [.T 11],.o 13 (.aJ .sub) [.t 10,.t 12],.o 14 (.aJ .sub) [.t 8,.t 13],
 .m 1 (.t 14)] [8,10,12,13,14]) (.seq (.g [.m 15 (.t 1),.o 16 (.aJ .gtr) [.t 15,.i 0]] [15]) (.cond (.T 16) []
 (.g [.m 17 (.t 0),.m 18 (.t 0),.o 19 .Qd [.T 18],.o 20 (.slice false false true false 11) [.T 17,.t 19],.m 21 (.t 1),
 .o 22 (.sC 11 120 [.i 0,.i 0,.str [],.str [],.i 0,.U,.i 0,.i 0,.i 0,.i 0,.i 0]) [.T 20,.t 21],
 .m 23 (.T 0),.o 24 (.len .sl) [.T 23],.o 25 (.pW 11) [.T 22,.t 24],.m 0 (.T 25)] [1,19,21,24]) [1] .skip))) (.seq (.g [
 .m 26 (.T 0),.m 4 (.T 26)] []) .ret)))) }
def Ng:aD:={ eZ:=156,mode:=.CN,aE:=3,aM:=0,di:=[],results:=[.tmp 6 false,.tmp 7 false],body:=
 (.seq (.g [.o 6 .move [.const .cY],.m 7 (.i 0)] [6,7]) (.seq (.g [.m 11 (.t 0),.m 12 (.t 1),
 .c 13 169 [.t 11,.t 12],.m 10 (.T 13),.o 14 (.extract 0) [.t 10],.o 15 (.extract 1) [.T 10],.m 8 (.T 14),
 .m 9 (.t 15)] [0,1,11,12,15]) (.seq (.block 0 (.seq (.g [.m 17 (.t 9),.o 18 (.un .not) [.t 17],.m 16 (.t 18)] [9,17,18])
 (.cond (.T 16) [2,8] (.seq (.g [.o 6 .move [.const .cY],.m 7 (.i 1)] []) .ret) [] (.seq (.g [.m 20 (.t 2),
 .o 21 (.aJ .lss) [.t 20,.i 0],.m 22 (.t 21),.z 23 .move [.t 2] 22,.z 24 .move [.t 8] 22,.z 25 (.len .sl) [.T 24] 22,
 .z 26 (.aJ .geq) [.t 23,.t 25] 22,.o 27 .pick [.t 22,.b true,.t 26],.m 19 (.t 27)] [20,21,22,23,24,25,26,27]) (.cond (.T 19) [2,8]
 (.seq (.g [.o 6 .move [.const .cY],.m 7 (.i 2)] []) .ret) [] .skip))))) (.seq (.g [.m 28 (.T 8),
 .m 29 (.t 2),.o 30 (.indexAddr 1) [.T 28,.t 29],.m 6 (.T 30),.m 7 (.i 0)] [2,29]) .ret)))) }
def Ys:aD:={ eZ:=161,mode:=.mR,aE:=2,aM:=2,di:=[],results:=[.box 4 0 11 true],body:=
 (.seq (.g [
 .o 4 (.aN 0 [.i 0,.i 0,.str [],.str [],.i 0,.U,.i 0,.i 0,.i 0,.i 0,.i 0]) []] []) (.seq
 (.seq (.g [.m 6 (.t 0),.c 7 21 [.t 6,.const (.str [91])],.o 8 (.un .not) [.t 7]] [6,7]) (.cond (.T 8) [] (.seq (.g [
 .m 9 (.t 0),.c 10 41 [.t 9],.o 11 (.build [.str [],.i 0] [(0,1)]) [.t 10],.m 12 (.t 1),
 .o 13 (.build [.i 0,.i 0,.str [],.str [],.i 0,.U,.i 0,.i 0,.i 0,.i 0,.i 0] [(0,1),(3,2),(6,1)]) [.i 8,.t 11,.t 12],
 .n (.aj 0 11) [.t 4,.T 13]] [0,1,9,10,11,12]) .ret) [] .skip)) (.seq (.g [.m 14 (.t 0),.o 15 .nilCheck [.t 14],
 .f 16 1 (.T 15),.d 17 (.T 16),.o 18 (.aJ .add) [.t 17,.i 1],.o 19 .nilCheck [.t 14],
 .f 20 1 (.T 19),.n (.store 1) [.T 20,.t 18]] [14,17,18]) (.seq (.g [.m 21 (.t 0),.c 22 42 [.t 21],
 .o 5 (.aN 1 [.str [],.i 0]) [],.n (.aj 1 2) [.t 5,.t 22]] [21,22]) (.seq (.g [.m 23 (.t 0),
 .c 24 25 [.t 23,.const (.str [93])]] [23,24]) (.seq (.r [.o 25 (.aL 1 true 2 false) [.t 5],.m 26 (.t 0),
 .c 27 162 [.t 26],
 .o 28 (.lit 11 1 [.i 0,.i 0,.str [],.str [],.i 0,.U,.i 0,.i 0,.i 0,.i 0,.i 0] [0]) [.T 27],
 .m 29 (.t 1),
 .o 30 (.build [.i 0,.i 0,.str [],.str [],.i 0,.U,.i 0,.i 0,.i 0,.i 0,.i 0] [(0,1),(3,2),(5,1),(6,1)]) [.i 9,.t 25,.T 28,.t 29],
 .n (.aj 0 11) [.t 4,.T 30]] (some []) [0,1,5,25,26,29]) .ret)))))) }
def acP:aD:={ eZ:=162,mode:=.mR,aE:=1,aM:=2,di:=[],results:=[.box 2 0 11 true],body:=
 (.seq (.g [
 .o 2 (.aN 0 [.i 0,.i 0,.str [],.str [],.i 0,.U,.i 0,.i 0,.i 0,.i 0,.i 0]) []] []) (.seq
 (.g [.m 4 (.t 0),.c 5 65 [.t 4,.const (.str [40])]] [4,5]) (.seq (.g [.m 6 (.t 0),
 .c 7 91 [.t 6,.i 0],
 .o 3 (.aN 1 [.i 0,.i 0,.str [],.str [],.i 0,.U,.i 0,.i 0,.i 0,.i 0,.i 0]) [],
 .n (.aj 1 11) [.t 3,.T 7]] [6]) (.seq (.g [.m 8 (.t 0),.c 9 67 [.t 8,.const (.str [41])]] [0,8,9]) (.seq (.g [
 .o 10 (.aL 1 true 11 false) [.t 3],.n (.aj 0 11) [.t 2,.T 10]] [3]) .ret))))) }
def OJ:bE:=
 (.seq (.seq (.g [.m 15 (.t 0),.c 16 21 [.t 15,.const (.str [44])]] [15]) (.cond (.T 16) [] .skip [] (.exit 0))) (.block 1 (.seq
 (.g [.m 17 (.t 0),.o 18 .nilCheck [.t 17],.f 19 1 (.T 18),.d 20 (.T 19),
 .o 21 (.aJ .add) [.t 20,.i 1],.o 22 .nilCheck [.t 17],.f 23 1 (.T 22),.n (.store 1) [.T 23,.t 21]] [17,20,21])
 (.g [.m 24 (.T 3),.m 25 (.t 0),.c 26 91 [.t 25,.i 0],
 .o 27 (.lit 11 1 [.i 0,.i 0,.str [],.str [],.i 0,.U,.i 0,.i 0,.i 0,.i 0,.i 0] [0]) [.T 26],
 .o 28 (.append 11 120) [.T 24,.T 27],.m 3 (.T 28)] [25]))))
def Yt:aD:={ eZ:=163,mode:=.mR,aE:=1,aM:=0,di:=[],results:=[.tmp 2 true],body:=
 (.seq (.g [.o 2 .move [.const .U]] [2]) (.seq (.g [.o 3 .move [.const .U]] []) (.seq (.g [.m 4 (.t 0),
 .c 5 65 [.t 4,.const (.str [40])]] [4,5]) (.seq (.seq (.g [.m 6 (.t 0),.c 7 21 [.t 6,.const (.str [41])]] [6])
 (.cond (.T 7) [3] (.seq (.g [.m 8 (.t 0),.c 9 67 [.t 8,.const (.str [41])]] [0,8,9]) (.seq (.g [
 .o 2 .move [.const .U]] []) .ret)) [] .skip)) (.seq (.g [.m 10 (.T 3),.m 11 (.t 0),.c 12 91 [.t 11,.i 0],
 .o 13 (.lit 11 1 [.i 0,.i 0,.str [],.str [],.i 0,.U,.i 0,.i 0,.i 0,.i 0,.i 0] [0]) [.T 12],
 .o 14 (.append 11 120) [.T 10,.T 13],.m 3 (.T 14)] [11]) (.seq (.block 0 (.loop OJ)) (.seq (.g [.m 29 (.t 0),
 .c 30 67 [.t 29,.const (.str [41])]] [0,29,30]) (.seq (.g [.m 31 (.T 3),.m 2 (.T 31)] []) .ret)))))))) }
def Yu:aD:={ eZ:=164,mode:=.pure,aE:=1,aM:=1,di:=[],results:=[.tmp 2 false],body:=
 (.seq (.g [.o 1 (.iA 0 3) [.t 0],.m 2 (.b false)] [0,2]) (.seq (.g [.f 3 0 (.t 1),
 .l 4 0 (.t 3),.o 5 (.aJ .eql) [.t 4,.i 3],.m 6 (.t 5),.z 7 (.fieldAddr 2) [.t 1] 6,
 .z 8 (.aL 0 false 1 false) [.t 7] 6,.z 9 (.aJ .gtr) [.t 8,.i 0] 6,.o 10 .pick [.t 6,.b true,.t 9],
 .m 2 (.t 10)] [1,3,4,5,6,7,8,9,10]) .ret)) }
def QZ:aD:={ eZ:=165,mode:=.mR,aE:=2,aM:=3,di:=[],results:=[.box 4 1 3 true,.tmp 5 false,.tmp 6 false],body:=
 (.seq (.g [.o 3 (.iA 0 11) [.T 1],.o 4 (.aN 1 [.i 0,.i 0,.i 0]) [],.m 5 (.i 0),
 .m 6 (.b false)] [5,6]) (.seq (.g [.f 10 5 (.t 3),.l 11 0 (.t 10),
 .o 12 (.indexAddr 11) [.T 11,.i 0],.f 13 7 (.T 12),.o 14 (.load true 3 false) [.T 13],
 .o 7 (.aN 2 [.i 0,.i 0,.i 0]) [],.n (.aj 2 3) [.t 7,.t 14]] [10,14]) (.seq (.seq (.g [.f 15 0 (.t 7),
 .l 16 2 (.t 15),.o 17 (.aJ .neq) [.t 16,.i 3],.m 18 (.t 17),.z 19 (.fieldAddr 2) [.t 7] 18,
 .z 20 (.aL 2 false 1 false) [.t 19] 18,.z 21 (.aJ .neq) [.t 20,.i 0] 18,
 .o 22 .pick [.t 18,.b true,.t 21]] [15,16,17,18,19,20,21]) (.cond (.T 22) [0,3,7] (.seq (.g [.c 23 117 [],
 .n (.aj 1 3) [.t 4,.t 23],.m 5 (.i 0),.m 6 (.b false)] [23]) .ret) [] .skip)) (.seq (.r [
 .m 24 (.t 0),.o 25 .nilCheck [.t 24],.f 26 0 (.T 25),.f 27 0 (.T 26),.d 28 (.T 27),
 .f 29 1 (.t 7),.l 30 2 (.t 29),.o 31 (.indexAddr 2) [.T 28,.t 30],.f 32 1 (.T 31),
 .d 33 (.T 32),.m 8 (.T 33)] (some []) [0,7,24,29,30]) (.seq (.g [.m 34 (.t 8),.f 35 2 (.t 3),
 .l 36 0 (.t 35),.c 37 168 [.T 34,.t 36],.m 9 (.t 37)] [3,35,36,37]) (.seq (.seq (.g [.m 38 (.t 9),
 .o 39 (.aJ .lss) [.t 38,.i 0]] [38]) (.cond (.T 39) [8,9] (.seq (.g [.c 40 117 [],.n (.aj 1 3) [.t 4,.t 40],
 .m 5 (.i 0),.m 6 (.b false)] [40]) .ret) [] .skip)) (.seq (.g [.m 41 (.T 8),.m 42 (.t 9),
 .o 43 (.indexAddr 4) [.T 41,.t 42],.f 44 1 (.T 43),.o 45 (.load true 3 false) [.T 44],.m 46 (.t 9),.n (.aj 1 3) [.t 4,.t 45],
 .m 5 (.t 46),.m 6 (.b true)] [9,42,45,46]) .ret))))))) }
def OK:bE:=
 (.seq (.g [.o 47 (.aJ .lss) [.t 46,.t 45]] []) (.seq (.cond (.T 47) [] .skip [3,44,45,46] (.exit 0)) (.seq (.block 1 (.seq (.g [
 .m 48 (.t 46),.o 49 (.indexAddr 4) [.t 44,.t 46],.o 50 (.load true 4 false) [.T 49],
 .o 9 (.aN 1 [.str [],.i 0,.i 0,.i 0]) [],.m 8 (.t 48),.n (.aj 1 4) [.t 9,.t 50]] [48,50]) (.seq (.r [
 .f 51 5 (.t 3),.d 52 (.T 51),.m 53 (.t 8),.o 54 (.indexAddr 11) [.T 52,.t 53],.f 55 7 (.T 54),
 .o 56 (.load true 3 false) [.T 55],.f 57 1 (.t 9),.o 58 (.aL 1 true 3 false) [.t 57],
 .o 59 (.BH (.flat [.int,.int,.int]) true) [.t 56,.t 58]] (some []) [8,9,53,56,57,58]) (.cond (.T 59) [0,3,7,44,45,46] (.seq (.g [.c 60 117 [],
 .n (.aj 0 3) [.t 4,.t 60],.m 5 (.i 0),.m 6 (.b false)] [60]) .ret) [] .skip)))) (.g [
 .o 61 (.aJ .add) [.t 46,.i 1],.m 46 (.t 61)] [61]))))
def UC:aD:={ eZ:=166,mode:=.mR,aE:=2,aM:=2,di:=[],results:=[.box 4 0 3 true,.tmp 5 false,.tmp 6 false],body:=
 (.seq (.g [.o 3 (.box 11) [.T 1],.o 4 (.aN 0 [.i 0,.i 0,.i 0]) [],.m 5 (.i 0),
 .m 6 (.b false)] [5,6]) (.seq (.g [.m 10 (.t 0),.o 11 .nilCheck [.t 10],.f 12 0 (.T 11),
 .f 13 2 (.T 12),.d 14 (.T 13),.o 15 (.makeFunc 172 0) [.t 3],.c 16 71 [.T 14,.t 15],
 .m 7 (.t 16)] [10,15,16]) (.seq (.seq (.r [.m 17 (.t 7),.o 18 (.aJ .lss) [.t 17,.i 0],.m 19 (.t 18),
 .z 20 .move [.t 0] 19,.z 21 .nilCheck [.t 20] 19,.z 22 (.fieldAddr 0) [.T 21] 19,.z 23 (.fieldAddr 2) [.T 22] 19,.z 24 (.load false 1 false) [.T 23] 19,
 .z 25 .move [.t 7] 19,.z 26 (.indexAddr 6) [.T 24,.t 25] 19,.z 27 (.fieldAddr 1) [.T 26] 19,.z 28 (.load false 1 false) [.T 27] 19,
 .z 29 (.len .sl) [.T 28] 19,.z 30 (.fieldAddr 5) [.t 3] 19,.z 31 (.load false 1 false) [.T 30] 19,.z 32 (.len .sl) [.T 31] 19,
 .z 33 (.aJ .neq) [.t 29,.t 32] 19,.o 34 .pick [.t 19,.b true,.t 33]] (some []) [17,18,19,20,21,22,23,24,25,26,27,28,29,30,31,32,33])
 (.cond (.T 34) [0,3,7] (.seq (.g [.c 35 117 [],.n (.aj 0 3) [.t 4,.t 35],.m 5 (.i 0),
 .m 6 (.b false)] [35]) .ret) [] .skip)) (.seq (.seq (.g [.m 36 (.t 0),.o 37 .nilCheck [.t 36],
 .f 38 0 (.T 37),.f 39 2 (.T 38),.d 40 (.T 39),.m 41 (.t 7),.o 42 (.indexAddr 6) [.T 40,.t 41],
 .f 43 1 (.T 42),.d 44 (.T 43),.o 45 (.len .sl) [.t 44],.m 46 (.i 0)] [36,41]) (.block 0
 (.loop OK))) (.seq (.g [.m 62 (.t 0),.o 63 .nilCheck [.t 62],.f 64 0 (.T 63),.f 65 2 (.T 64),
 .d 66 (.T 65),.m 67 (.t 7),.o 68 (.indexAddr 6) [.T 66,.t 67],.f 69 3 (.T 68),.o 70 (.load true 3 false) [.T 69],
 .m 71 (.t 7),.n (.aj 0 3) [.t 4,.t 70],.m 5 (.t 71),.m 6 (.b true)] [0,7,62,67,70,71]) .ret))))) }
def CB:aD:={ eZ:=167,mode:=.mR,aE:=2,aM:=4,di:=[0],results:=[.box 4 1 3 true,.tmp 5 false,.tmp 6 false],body:=
 (.seq (.g [.o 3 (.iA 0 11) [.T 1],.o 4 (.aN 1 [.i 0,.i 0,.i 0]) [],.m 5 (.i 0),
 .m 6 (.b false)] [5,6]) (.seq (.r [.f 9 5 (.t 3),.l 10 0 (.t 9),
 .o 11 (.indexAddr 11) [.T 10,.i 0],.f 12 7 (.T 11),.o 13 (.load true 3 false) [.T 12],.f 14 5 (.t 3),
 .l 15 0 (.t 14),.o 16 (.indexAddr 11) [.T 15,.i 1],.f 17 7 (.T 16),.o 18 (.load true 3 false) [.T 17],
 .o 7 (.aN 2 [.i 0,.i 0,.i 0]) [],.o 8 (.aN 3 [.i 0,.i 0,.i 0]) [],.n (.aj 2 3) [.t 7,.t 13],
 .n (.aj 3 3) [.t 8,.t 18]] (some []) [9,13,14,18]) (.seq (.seq (.g [.f 19 0 (.t 3),
 .l 20 0 (.t 19)] [3,19]) (.block 0 (.seq (.seq (.g [.o 22 (.aJ .eql) [.t 20,.i 14],
 .m 21 (.t 22)] [22]) (.cond (.t 21) [] .skip [21] (.seq (.g [.o 23 (.aJ .eql) [.t 20,.i 15],.m 21 (.t 23)] [23])
 (.cond (.t 21) [] .skip [21] (.seq (.g [.o 24 (.aJ .eql) [.t 20,.i 16],.m 21 (.t 24)] [24]) (.cond (.t 21) [] .skip [21]
 (.seq (.g [.o 25 (.aJ .eql) [.t 20,.i 17],.m 21 (.t 25)] [25]) (.cond (.t 21) [] .skip [21] (.g [
 .o 26 (.aJ .eql) [.t 20,.i 18],.m 21 (.t 26)] [26]))))))))) (.cond (.T 21) [20] (.seq (.r [.c 27 146 [],
 .o 28 (.aL 2 true 3 false) [.t 7],.c 29 146 [],.o 30 (.BH (.flat [.int,.int,.int]) false) [.t 28,.t 29],.m 31 (.t 30),
 .y 32 (.aL 3 true 3 false) [.t 8] 31,.y 33 (.call 146) [] 31,.y 34 (.BH (.flat [.int,.int,.int]) false) [.t 32,.t 33] 31,
 .o 35 .pick [.t 31,.t 34,.b false],.n (.aj 1 3) [.t 4,.t 27],.m 5 (.i 0),
 .m 6 (.t 35)] (some []) [7,8,27,28,29,30,31,32,33,34,35]) .ret) [] (.seq (.seq (.g [.o 37 (.aJ .eql) [.t 20,.i 19],
 .m 36 (.t 37)] [37]) (.cond (.t 36) [] .skip [36] (.g [.o 38 (.aJ .eql) [.t 20,.i 20],.m 36 (.t 38)] [38])))
 (.cond (.T 36) [20] (.seq (.r [.c 39 145 [],.o 40 (.aL 2 true 3 false) [.t 7],.c 41 146 [],
 .o 42 (.BH (.flat [.int,.int,.int]) false) [.t 40,.t 41],.m 43 (.t 42),.y 44 (.aL 3 true 3 false) [.t 8] 43,.y 45 (.call 146) [] 43,
 .y 46 (.BH (.flat [.int,.int,.int]) false) [.t 44,.t 45] 43,.o 47 .pick [.t 43,.t 46,.b false],.n (.aj 1 3) [.t 4,.t 39],
 .m 5 (.i 0),.m 6 (.t 47)] (some []) [7,8,39,40,41,42,43,44,45,46,47]) .ret) [] (.seq (.seq (.g [
 .o 49 (.aJ .eql) [.t 20,.i 21],.m 48 (.t 49)] [49]) (.cond (.t 48) [20] .skip [48] (.g [
 .o 50 (.aJ .eql) [.t 20,.i 22],.m 48 (.t 50)] [20,50]))) (.cond (.T 48) [] (.seq (.r [.c 51 145 [],
 .o 52 (.aL 2 true 3 false) [.t 7],.o 53 (.aL 3 true 3 false) [.t 8],.o 54 (.BH (.flat [.int,.int,.int]) false) [.t 52,.t 53],
 .n (.aj 1 3) [.t 4,.t 51],.m 5 (.i 0),.m 6 (.t 54)] (some []) [7,8,51,52,53,54]) .ret) [] .skip)))))))) (.seq (.r [
 .c 55 145 [],.o 56 (.aL 2 true 3 false) [.t 7],.c 57 145 [],.o 58 (.BH (.flat [.int,.int,.int]) false) [.t 56,.t 57],
 .m 59 (.t 58),.y 60 (.aL 3 true 3 false) [.t 8] 59,.y 61 (.call 145) [] 59,.y 62 (.BH (.flat [.int,.int,.int]) false) [.t 60,.t 61] 59,
 .o 63 .pick [.t 59,.t 62,.b false],.n (.aj 1 3) [.t 4,.t 55],.m 5 (.i 0),
 .m 6 (.t 63)] (some []) [7,8,55,56,57,58,59,60,61,62,63]) .ret)))) }
def acQ:aD:={ eZ:=168,mode:=.pure,aE:=2,aM:=0,di:=[],results:=[.tmp 4 false],body:=
 (.seq (.g [.o 3 (.box 1) [.t 1],.m 4 (.i 0)] [1,4]) (.seq (.g [.m 5 (.T 0),.o 6 (.makeFunc 174 0) [.T 3],
 .c 7 173 [.T 5,.t 6],.m 4 (.t 7)] [6,7]) .ret)) }
def Q0:aD:={ eZ:=169,mode:=.CN,aE:=2,aM:=0,di:=[],results:=[.tmp 4 true,.tmp 5 false],body:=
 (.seq (.g [.o 4 .move [.const .U],.m 5 (.b false)] [4,5]) (.seq (.seq (.g [.m 6 (.t 0),
 .o 7 (.BH .ptr false) [.t 6,.const .cY],.m 8 (.t 7),.z 9 .move [.t 1] 8,.z 10 (.aJ .lss) [.t 9,.i 1] 8,
 .o 11 .pick [.t 8,.b true,.t 10],.m 12 (.t 11),.z 13 .move [.t 1] 12,.z 14 .move [.t 0] 12,.z 15 .nilCheck [.t 14] 12,
 .z 16 (.fieldAddr 0) [.T 15] 12,.z 17 (.load false 1 false) [.T 16] 12,.z 18 (.len .sl) [.T 17] 12,.z 19 (.aJ .gtr) [.t 13,.t 18] 12,
 .o 20 .pick [.t 12,.b true,.t 19]] [6,7,8,9,10,11,12,13,14,15,16,17,18,19]) (.cond (.T 20) [0,1] (.seq (.g [.o 4 .move [.const .U],
 .m 5 (.b false)] []) .ret) [] .skip)) (.seq (.g [.m 21 (.t 0),.o 22 .nilCheck [.t 21],.f 23 0 (.T 22),
 .d 24 (.T 23),.m 25 (.t 1),.o 26 (.aJ .sub) [.t 25,.i 1],.o 27 (.indexAddr 1) [.T 24,.t 26],
 .d 28 (.T 27),.m 4 (.T 28),.m 5 (.b true)] [0,1,21,25,26]) .ret))) }
def UD:aD:={ eZ:=170,mode:=.CN,aE:=2,aM:=0,di:=[],results:=[.tmp 4 false],body:=
 (.seq (.g [.m 4 (.i 0)] [4]) (.seq (.r [.m 5 (.t 0),.m 6 (.t 0),.o 7 .nilCheck [.t 6],
 .f 8 0 (.T 7),.d 9 (.T 8),.m 10 (.t 1),.o 11 (.qV 1 8 [.i 0] true) [.t 10,.t 10],
 .o 12 (.Qc 1 1 [.U] [0]) [.T 11],.o 13 (.kh 1 24) [.T 9,.T 12],.o 14 .nilCheck [.t 5],.f 15 0 (.T 14),
 .n (.store 1) [.T 15,.T 13]] (some [(4,6),(4,7)]) [1,5,6,10]) (.seq (.g [.m 16 (.t 0),.o 17 .nilCheck [.t 16],.f 18 0 (.T 17),
 .d 19 (.T 18),.o 20 (.len .sl) [.T 19],.m 4 (.t 20)] [0,16,20]) .ret))) }
def acR:aD:={ eZ:=171,mode:=.pure,aE:=1,aM:=0,di:=[],results:=[.tmp 2 false],body:=
 (.seq (.g [.m 2 (.i 0)] [2]) (.seq (.seq (.g [.m 3 (.t 0)] [0]) (.cond (.T 3) [] (.seq (.g [
 .m 2 (.i 1)] []) .ret) [] .skip)) (.seq (.g [.m 2 (.i 0)] []) .ret))) }
def acS:aD:={ eZ:=172,mode:=.mR,aE:=2,aM:=1,di:=[],results:=[.tmp 3 false],body:=
 (.seq (.g [.o 2 (.iA 0 6) [.T 0],.m 3 (.b false)] [3]) (.seq (.g [.f 4 0 (.t 2),
 .l 5 0 (.t 4),.f 6 2 (.T 1),.d 7 (.T 6),.o 8 (.aJ .eql) [.t 5,.t 7],
 .m 3 (.t 8)] [2,4,5,7,8]) .ret)) }
def OL:bE:=
 (.seq (.g [.o 9 (.aJ .lss) [.t 8,.t 7]] []) (.seq (.cond (.T 9) [] .skip [0,1,7,8] (.exit 0)) (.seq (.block 1 (.seq (.g [.m 10 (.t 8),
 .m 5 (.t 10)] [10]) (.seq (.g [.m 11 (.t 1),.m 12 (.t 0),.m 13 (.t 5),.o 14 (.indexAddr 4) [.T 12,.t 13],
 .o 15 (.load true 4 false) [.T 14],.o 16 .qW [.t 11,.t 15]] [11,13,15]) (.cond (.T 16) [0,1,7,8] (.seq (.g [.m 17 (.t 5),
 .m 4 (.t 17)] [5,17]) .ret) [5] .skip)))) (.g [.o 18 (.aJ .add) [.t 8,.i 1],.m 8 (.t 18)] [18]))))
def acT:aD:={ eZ:=173,mode:=.mR,aE:=2,aM:=0,di:=[],results:=[.tmp 4 false],body:=
 (.seq (.g [.m 4 (.i 0)] [4]) (.seq (.seq (.g [.m 6 (.t 0),.o 7 (.len .sl) [.T 6],
 .m 8 (.i 0)] []) (.block 0 (.loop OL))) (.seq (.g [.o 4 .move [.const (.i (-1))]] []) .ret))) }
def acU:aD:={ eZ:=174,mode:=.mR,aE:=2,aM:=1,di:=[],results:=[.tmp 3 false],body:=
 (.seq (.g [.o 2 (.iA 0 4) [.t 0],.m 3 (.b false)] [0,3]) (.seq (.g [.f 4 0 (.t 2),
 .l 5 0 (.t 4),.d 6 (.T 1),.o 7 (.aJ .eql) [.t 5,.t 6],.m 3 (.t 7)] [2,4,5,6,7]) .ret)) }
def W0:List (Option aD):=[none,none,none,none,none,none,some s6,none,none,none,some s10,some s11,some s12,none,some s14,none,some s16,some s17,some s18,some s19,some s20,some s21,some s22,some s23,some s24,some s25,some s26,some s27,some s28,some s29,some s30,some s31,none,none,none,none,some s36,some s37,some s38,some s39,some Nb,some s41,some s42,some s43,some s44,some s45,some s46,some s47,some s48,some s49,none,none,none,none,none,none,none,some JR,some s58,some s59,some s60,some s61,some s62,some s63,some s64,some s65,some Ui,some s67,some s68,some s69,some s70,some s71,some s72,some s73,some s74,some s75,some s76,some KU,some QX,none,none,none,none,none,none,none,some s86,some s87,some s88,some s89,some s90,some s91,some s92,some s93,some s94,some mA,some s96,some s97,some s98,some s99,some acH,some Ut,none,none,none,none,none,none,none,none,none,none,none,some Uu,some KW,some Uv,some yT,some acI,some oL,some Yo,some IA,some Uw,some nA,some Nf,some acJ,some Ux,none,none,none,none,none,none,none,none,none,none,none,some acK,some rG,some um,some En,some kR,some KX,some Yp,some Uy,some acL,some acM,some acN,some Yq,some Yr,some Uz,some QY,some UA,some UB,some uo,some acO,some Ng,none,none,none,none,some Ys,some acP,some Yt,some Yu,some QZ,some UC,some CB,some acQ,some Q0,some UD,some acR,some acS,some acT,some acU,none,none,none,none,none,none,none,none,none,none,none,none,none,none,none,none,none]
def HO:List (Option aD):=[]
def S:Nat->Option aD:=Si W0 HO
end bX
