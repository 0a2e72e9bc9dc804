/- The annotated code of the loaded program,printed by wip/tools/gen.py. -/
import Derived.Test.YtachcambnjecnaaGreatCode1

set_option maxRecDepth 100000
namespace aT
open Ax Go
def eF:aC:={ eL:=100,mode:=.lS,nparams:=2,aJ:=4,dc:=[],results:=[.box 4 1 9 true],body:=
 (.seq (.g [.o 3 (.dW 0 9) [.T 1],.o 4 (.aE 1 [.i 0,.str [],.str [],.i 0,.U,.U,.U,.i 0,.i 0]) []] [])
 (.seq (.g [.f 8 0 (.t 3),.l 9 0 (.t 8),.f 10 7 (.t 3),.l 11 0 (.t 10),
 .o 12 (.build [.i 0,.str [],.str [],.i 0,.U,.U,.U,.i 0,.i 0] [(0,1),(7,1)]) [.t 9,.t 11],
 .o 5 (.aE 2 [.i 0,.str [],.str [],.i 0,.U,.U,.U,.i 0,.i 0]) [],.n (.ag 2 9) [.t 5,.T 12]] [8,9,10,11])
 (.seq (.r [.c 13 119 [],.m 14 (.t 0),.o 15 (.aj 0 true 9 false) [.t 3],.c 16 120 [.t 14,.T 15],
 .o 6 (.aE 3 [.i 0,.i 0,.i 0]) [],.n (.ag 3 3) [.t 6,.t 13],.m 7 (.t 16)] (some []) [13,14,16]) (.seq (.seq (.g [
 .m 17 (.t 7),.m 18 (.t 17),.y 19 (.fieldAddr 0) [.t 3] 18,.y 20 (.aj 0 false 1 false) [.t 19] 18,
 .y 21 (.bin .eql) [.t 20,.i 1] 18,.y 22 .move [.t 21] 18,.z 23 (.fieldAddr 0) [.t 3] 22,.z 24 (.aj 0 false 1 false) [.t 23] 22,
 .z 25 (.bin .eql) [.t 24,.i 2] 22,.y 26 .pick [.t 22,.b true,.t 25] 18,
 .o 27 .pick [.t 18,.t 26,.b false]] [17,18,19,20,21,22,23,24,25,26]) (.cond (.T 27) [7] (.seq (.r [.m 29 (.t 0),
 .o 30 .nilCheck [.t 29],.f 31 4 (.T 30),.d 32 (.T 31),.f 33 2 (.t 3),
 .o 34 (.aj 0 true 2 false) [.t 33],.c 35 118 [.T 32,.t 34],.m 28 (.T 35),.o 36 (.extract 0) [.t 28],.o 37 (.extract 1) [.t 28],
 .n (.ag 3 3) [.t 6,.t 36],.m 7 (.t 37)] (some []) [28,29,33,34,36,37]) (.g [.f 38 2 (.t 3),
 .o 39 (.aj 0 true 2 false) [.t 38],.f 40 2 (.t 5),.n (.ag 2 2) [.t 40,.t 39]] [38,39,40])) [] .skip)) (.seq (.seq (.g [
 .m 41 (.t 7),.o 42 (.un .not) [.t 41]] [7,41]) (.cond (.T 42) [5,6] (.seq (.g [.m 43 (.t 0),.f 44 7 (.t 3),
 .l 45 0 (.t 44),.c 46 121 [.t 43,.t 45]] [0,3,43,44,45,46]) (.seq (.g [
 .o 47 (.build [.i 0,.str [],.str [],.i 0,.U,.U,.U,.i 0,.i 0] []) [],.n (.ag 1 9) [.t 4,.T 47]] []) .ret)) []
 .skip)) (.seq (.seq (.g [.f 48 0 (.t 3),.l 49 0 (.t 48),
 .o 50 (.bin .eql) [.t 49,.i 9]] [48,49]) (.cond (.T 50) [] (.g [.m 51 (.t 0),.f 52 4 (.t 3),
 .l 53 0 (.t 52),.o 54 (.indexAddr 11) [.T 53,.i 0],.o 55 (.load true 11 false) [.T 54],
 .c 56 122 [.t 51,.T 55],
 .o 57 (.lit 11 1 [.i 0,.i 0,.str [],.str [],.i 0,.U,.i 0,.i 0,.i 0,.i 0,.i 0] [0]) [.T 56],
 .f 58 4 (.t 5),.n (.ag 2 1) [.t 58,.T 57]] [51,52,58]) [] (.g [.m 59 (.t 0),.f 60 4 (.t 3),
 .l 61 0 (.t 60),.c 62 123 [.t 59,.T 61],.f 63 4 (.t 5),.n (.ag 2 1) [.t 63,.T 62]] [59,60,63]))) (.seq
 (.seq (.g [.m 64 (.t 0),.c 65 43 [.t 64]] [64]) (.cond (.T 65) [0,3,5,6] (.seq (.g [
 .o 66 (.build [.i 0,.str [],.str [],.i 0,.U,.U,.U,.i 0,.i 0] []) [],.n (.ag 1 9) [.t 4,.T 66]] []) .ret) []
 .skip)) (.seq (.seq (.g [.f 67 0 (.t 3),.l 68 0 (.t 67),.o 69 (.bin .eql) [.t 68,.i 1],
 .m 70 (.t 69),.z 71 (.fieldAddr 0) [.t 3] 70,.z 72 (.aj 0 false 1 false) [.t 71] 70,.z 73 (.bin .eql) [.t 72,.i 2] 70,
 .o 74 .pick [.t 70,.b true,.t 73],.m 75 (.t 74),.z 76 (.fieldAddr 0) [.t 3] 75,.z 77 (.aj 0 false 1 false) [.t 76] 75,
 .z 78 (.bin .eql) [.t 77,.i 3] 75,.o 79 .pick [.t 75,.b true,.t 78]] [67,68,69,70,71,72,73,74,75,76,77,78])
 (.cond (.T 79) [] (.g [.f 80 1 (.t 3),.l 81 0 (.t 80),.f 82 1 (.t 5),
 .n (.ag 2 1) [.t 82,.t 81]] [80,81,82]) [] .skip)) (.seq (.g [.m 84 (.t 0),.o 85 (.aj 2 true 9 false) [.t 5],
 .o 86 (.aj 3 true 3 false) [.t 6],.c 87 124 [.t 84,.T 85,.t 86],.m 83 (.T 87),.o 88 (.extract 0) [.t 83],.o 89 (.extract 1) [.T 83],
 .f 90 8 (.t 5),.n (.ag 2 1) [.t 90,.t 88],.m 7 (.t 89)] [6,84,86,88,89,90]) (.seq (.seq (.g [.m 91 (.t 7),
 .o 92 (.un .not) [.t 91]] [7,91]) (.cond (.T 92) [5] (.seq (.g [.m 93 (.t 0),.f 94 7 (.t 3),
 .l 95 0 (.t 94),.c 96 121 [.t 93,.t 95]] [0,3,93,94,95,96]) (.seq (.g [
 .o 97 (.build [.i 0,.str [],.str [],.i 0,.U,.U,.U,.i 0,.i 0] []) [],.n (.ag 1 9) [.t 4,.T 97]] []) .ret)) []
 .skip)) (.seq (.seq (.g [.f 98 0 (.t 3),.l 99 0 (.t 98),.o 100 (.bin .eql) [.t 99,.i 5],
 .m 101 (.t 100),.z 102 (.fieldAddr 0) [.t 3] 101,.z 103 (.aj 0 false 1 false) [.t 102] 101,.z 104 (.bin .eql) [.t 103,.i 6] 101,
 .o 105 .pick [.t 101,.b true,.t 104]] [98,99,100,101,102,103,104]) (.cond (.T 105) [] (.g [.m 106 (.t 0),
 .f 107 5 (.t 3),.l 108 0 (.t 107),.c 109 83 [.t 106,.T 108],.f 110 5 (.t 5),
 .n (.ag 2 1) [.t 110,.T 109]] [106,107,110]) [] .skip)) (.seq (.seq (.g [.f 111 0 (.t 3),
 .l 112 0 (.t 111),.o 113 (.bin .eql) [.t 112,.i 5]] [111,112]) (.cond (.T 113) [] (.g [.m 114 (.t 0),
 .f 115 6 (.t 3),.l 116 0 (.t 115),.c 117 83 [.t 114,.T 116],.f 118 6 (.t 5),
 .n (.ag 2 1) [.t 118,.T 117]] [0,3,114,115,118]) [0,3] .skip)) (.seq (.g [.o 119 (.aj 2 true 9 false) [.t 5],
 .n (.ag 1 9) [.t 4,.T 119]] [5]) .ret))))))))))))) }
def KQ:bG:=
 (.seq (.g [.o 12 (.bin .lss) [.t 11,.t 10]] []) (.seq (.cond (.T 12) [] .skip [9,10,11] (.exit 0)) (.seq (.block 1 (.seq (.g [
 .o 13 (.indexAddr 11) [.t 9,.t 11],.o 14 (.load true 11 false) [.T 13],
 .o 7 (.aE 1 [.i 0,.i 0,.str [],.str [],.i 0,.U,.i 0,.i 0,.i 0,.i 0,.i 0]) [],
 .n (.ag 1 11) [.t 7,.T 14]] []) (.g [.m 15 (.t 0),.o 16 (.aj 1 true 11 false) [.t 7],.m 17 (.t 2),
 .c 18 101 [.t 15,.T 16,.T 17]] [7,15,18]))) (.g [.o 19 (.bin .add) [.t 11,.i 1],.m 11 (.t 19)] [19]))))
def X5:aC:={ eL:=101,mode:=.lS,nparams:=3,aJ:=2,dc:=[],results:=[],body:=
 (.seq (.g [.o 4 (.dW 0 11) [.T 1]] []) (.seq (.seq (.g [.f 8 5 (.t 4),.l 9 0 (.t 8),
 .o 10 (.len .sl) [.t 9],.m 11 (.i 0)] [8]) (.block 0 (.loop KQ))) (.seq (.g [.f 20 0 (.t 4),
 .l 21 0 (.t 20),.o 22 (.bin .eql) [.t 21,.i 4],.m 23 (.t 22),.y 24 (.fieldAddr 10) [.t 4] 23,
 .y 25 (.aj 0 false 1 false) [.t 24] 23,.y 26 (.bin .geq) [.t 25,.i 0] 23,.o 27 .pick [.t 23,.t 26,.b false],
 .m 28 (.t 27),.y 29 .move [.T 2] 28,.y 30 (.fieldAddr 10) [.t 4] 28,.y 31 (.aj 0 false 1 false) [.t 30] 28,.y 32 (.indexAddr 1) [.T 29,.t 31] 28,
 .y 33 (.load false 1 false) [.T 32] 28,.y 34 (.un .not) [.t 33] 28,.o 35 .pick [.t 28,.t 34,.b false],.m 36 (.t 35),
 .y 37 .move [.t 0] 36,.y 38 .nilCheck [.t 37] 36,.y 39 (.fieldAddr 0) [.T 38] 36,.y 40 (.fieldAddr 0) [.T 39] 36,.y 41 (.load false 1 false) [.T 40] 36,
 .y 42 (.bin .eql) [.t 41,.i 0] 36,
 .o 43 .pick [.t 36,.t 42,.b false]] [2,20,21,22,23,24,25,26,27,28,29,30,31,32,33,34,35,36,37,38,39,40,41,42]) (.cond (.T 43) [] (.g [
 .m 44 (.t 0),.f 45 6 (.t 4),.l 46 0 (.t 45),
 .o 47 (.build [.i 0,.i 0] [(0,1),(1,1)]) [.i 3,.t 46],.o 48 .nilCheck [.t 44],.f 49 0 (.T 48),
 .n (.store 2) [.T 49,.t 47]] [0,4,44,45,46,47]) [0,4] .skip)))) }
def Ul:aC:={ eL:=102,mode:=.CP,nparams:=2,aJ:=1,dc:=[],results:=[],body:=
 (.seq (.g [.o 3 (.dW 0 9) [.T 1]] []) (.seq (.g [.m 5 (.t 0),.f 6 4 (.t 3),.l 7 0 (.t 6),
 .o 8 (.indexAddr 11) [.T 7,.i 0],.o 9 (.load true 11 false) [.T 8],.c 10 106 [.t 5,.T 9],.m 4 (.t 10)] [5,6,10]) (.seq
 (.seq (.g [.f 11 8 (.t 3),.l 12 0 (.t 11),.o 13 (.bin .lss) [.t 12,.i 0]] [11,12])
 (.cond (.T 13) [] (.seq (.g [.m 14 (.t 0),.m 15 (.t 4),.f 16 8 (.t 3),.l 17 0 (.t 16),
 .o 18 (.bin .sub) [.const (.i (-1)),.t 17],
 .o 19 (.build [.i 0,.i 0,.i 0,.i 0,.i 0,.U] [(0,1),(1,1),(4,1)]) [.i 20,.t 15,.t 18],
 .c 20 48 [.t 14,.T 19]] [0,3,4,14,15,16,17,18,20]) .ret) [] .skip)) (.g [.m 21 (.t 0),.f 22 8 (.t 3),
 .l 23 0 (.t 22),.m 24 (.t 4),
 .o 25 (.build [.i 0,.i 0,.i 0,.i 0,.i 0,.U] [(0,1),(1,1),(2,1)]) [.i 3,.t 23,.t 24],
 .c 26 48 [.t 21,.T 25]] [0,3,4,21,22,23,24,26])))) }
def Um:aC:={ eL:=103,mode:=.CP,nparams:=2,aJ:=1,dc:=[],results:=[],body:=
 (.seq (.g [.o 3 (.dW 0 9) [.T 1]] []) (.seq (.g [.m 6 (.t 0),.f 7 4 (.t 3),.l 8 0 (.t 7),
 .o 9 (.indexAddr 11) [.T 8,.i 0],.f 10 5 (.T 9),.d 11 (.T 10),.c 12 125 [.t 6,.T 11],
 .m 4 (.T 12)] [6,7]) (.seq (.g [.m 13 (.t 0),.f 14 4 (.t 3),.l 15 0 (.t 14),
 .o 16 (.indexAddr 11) [.T 15,.i 1],.o 17 (.load true 11 false) [.T 16],.c 18 106 [.t 13,.T 17],.m 5 (.t 18)] [13,14,18])
 (.seq (.seq (.g [.f 19 4 (.t 3),.l 20 0 (.t 19),.o 21 (.indexAddr 11) [.T 20,.i 0],
 .f 22 0 (.T 21),.d 23 (.T 22),.o 24 (.bin .eql) [.t 23,.i 5]] [19,23]) (.cond (.T 24) [] (.seq
 (.r [.m 25 (.t 0),.m 26 (.T 4),.o 27 (.indexAddr 1) [.T 26,.i 0],.d 28 (.T 27),.m 29 (.t 5),
 .f 30 4 (.t 3),.l 31 0 (.t 30),.o 32 (.indexAddr 11) [.T 31,.i 0],.f 33 10 (.T 32),
 .d 34 (.T 33),
 .o 35 (.build [.i 0,.i 0,.i 0,.i 0,.i 0,.U] [(0,1),(1,1),(2,1),(3,1)]) [.i 7,.t 28,.t 29,.t 34],
 .c 36 48 [.t 25,.T 35]] (some []) [0,3,5,25,28,29,30,34,36]) .ret) [3] .skip)) (.r [.m 37 (.t 0),.m 38 (.t 4),
 .o 39 (.indexAddr 1) [.T 38,.i 0],.d 40 (.T 39),.m 41 (.t 4),.o 42 (.indexAddr 1) [.T 41,.i 1],
 .d 43 (.T 42),.m 44 (.t 5),
 .o 45 (.build [.i 0,.i 0,.i 0,.i 0,.i 0,.U] [(0,1),(1,1),(2,1),(3,1)]) [.i 9,.t 40,.t 43,.t 44],
 .c 46 48 [.t 37,.T 45]] (some []) [0,4,5,37,40,43,44,46]))))) }
def X6:aC:={ eL:=104,mode:=.CP,nparams:=2,aJ:=1,dc:=[],results:=[],body:=
 (.seq (.g [.o 3 (.dW 0 9) [.T 1]] []) (.seq (.g [.m 6 (.t 0),.f 7 4 (.t 3),.l 8 0 (.t 7),
 .o 9 (.indexAddr 11) [.T 8,.i 0],.o 10 (.load true 11 false) [.T 9],.c 11 126 [.t 6,.T 10],.m 4 (.t 11)] [6,7,11]) (.seq
 (.g [.m 12 (.t 0),.f 13 5 (.t 3),.l 14 0 (.t 13),.c 15 45 [.t 12,.T 14]] [12,13,15]) (.seq
 (.g [.m 16 (.t 0),.o 17 (.build [.i 0,.i 0,.i 0,.i 0,.i 0,.U] [(0,1)]) [.i 16],
 .c 18 48 [.t 16,.T 17],.m 5 (.t 18)] [16,18]) (.seq (.r [.m 19 (.t 0),.o 20 .nilCheck [.t 19],.f 21 5 (.T 20),
 .f 22 6 (.T 21),.d 23 (.T 22),.m 24 (.t 4),.m 25 (.t 0),.c 26 127 [.t 25],
 .o 27 (.indexAddr 6) [.T 23,.t 24],.f 28 3 (.T 27),.n (.store 1) [.T 28,.t 26]] (some [(4,7)]) [4,19,24,25,26]) (.seq (.g [
 .m 29 (.t 0),.f 30 6 (.t 3),.l 31 0 (.t 30),.c 32 45 [.t 29,.T 31]] [3,29,30,32]) (.r [
 .m 33 (.t 0),.o 34 .nilCheck [.t 33],.f 35 5 (.T 34),.f 36 6 (.T 35),.d 37 (.T 36),
 .m 38 (.t 5),.m 39 (.t 0),.c 40 127 [.t 39],.o 41 (.indexAddr 6) [.T 37,.t 38],.f 42 4 (.T 41),
 .n (.store 1) [.T 42,.t 40]] (some [(4,7)]) [0,5,33,38,39,40]))))))) }
def X7:aC:={ eL:=105,mode:=.CP,nparams:=2,aJ:=1,dc:=[],results:=[],body:=
 (.seq (.g [.o 3 (.dW 0 9) [.T 1]] []) (.seq (.g [.m 6 (.t 0),.c 7 127 [.t 6],.m 4 (.t 7)] [6,7]) (.seq
 (.g [.m 8 (.t 0),.f 9 4 (.t 3),.l 10 0 (.t 9),.o 11 (.indexAddr 11) [.T 10,.i 0],
 .o 12 (.load true 11 false) [.T 11],.c 13 126 [.t 8,.T 12],.m 5 (.t 13)] [8,9,13]) (.seq (.g [.m 14 (.t 0),
 .f 15 5 (.t 3),.l 16 0 (.t 15),.c 17 45 [.t 14,.T 16]] [3,14,15,17]) (.seq (.g [.m 18 (.t 0),
 .m 19 (.t 4),.o 20 (.build [.i 0,.i 0,.i 0,.i 0,.i 0,.U] [(0,1),(4,1)]) [.i 16,.t 19],
 .c 21 48 [.t 18,.T 20]] [4,18,19,21]) (.r [.m 22 (.t 0),.o 23 .nilCheck [.t 22],.f 24 5 (.T 23),
 .f 25 6 (.T 24),.d 26 (.T 25),.m 27 (.t 5),.m 28 (.t 0),.c 29 127 [.t 28],
 .o 30 (.indexAddr 6) [.T 26,.t 27],.f 31 3 (.T 30),.n (.store 1) [.T 31,.t 29]] (some [(4,7)]) [0,5,22,27,28,29])))))) }
def Ho:aC:={ eL:=106,mode:=.CP,nparams:=2,aJ:=2,dc:=[],results:=[.tmp 4 false],body:=
 (.seq (.g [.o 3 (.dW 0 11) [.T 1],.m 4 (.i 0)] [4]) (.seq (.seq (.g [.f 8 0 (.t 3),
 .l 9 0 (.t 8),.o 10 (.bin .eql) [.t 9,.i 4],.m 11 (.t 10),.y 12 (.fieldAddr 10) [.t 3] 11,
 .y 13 (.aj 0 false 1 false) [.t 12] 11,.y 14 (.bin .geq) [.t 13,.i 0] 11,
 .o 15 .pick [.t 11,.t 14,.b false]] [8,9,10,11,12,13,14]) (.cond (.T 15) [0] (.seq (.g [.f 16 10 (.t 3),
 .l 17 0 (.t 16),.m 4 (.t 17)] [3,16,17]) .ret) [] .skip)) (.seq (.g [.m 18 (.t 0),.f 19 5 (.t 3),
 .l 20 0 (.t 19),.c 21 125 [.t 18,.T 20],.m 5 (.T 21)] [18,19]) (.seq (.seq (.g [.f 22 0 (.t 3),
 .l 23 0 (.t 22),.o 24 (.bin .eql) [.t 23,.i 7]] [22,23]) (.cond (.T 24) [] (.seq (.g [.m 25 (.t 0),
 .o 26 (.aj 0 true 11 false) [.t 3],.m 27 (.T 5),.c 28 128 [.t 25,.T 26,.T 27],.m 4 (.t 28)] [0,3,25,28]) .ret) [] .skip)) (.seq
 (.g [.m 29 (.t 0),.f 30 7 (.t 3),.o 31 (.aj 0 true 3 false) [.t 30],.c 32 47 [.t 29,.t 31],
 .m 6 (.t 32)] [29,30,31,32]) (.seq (.g [.m 33 (.t 0),.o 34 (.aj 0 true 11 false) [.t 3],.m 35 (.T 5),
 .c 36 129 [.t 33,.T 34,.T 35],.o 7 (.aE 1 [.i 0,.i 0,.i 0,.i 0,.i 0,.U]) [],
 .n (.ag 1 6) [.t 7,.T 36]] [3,33]) (.seq (.g [.m 37 (.t 6),.f 38 1 (.t 7),.n (.ag 1 1) [.t 38,.t 37]] [37,38])
 (.seq (.g [.m 39 (.t 0),.o 40 (.aj 1 true 6 false) [.t 7],.c 41 48 [.t 39,.T 40]] [0,7,39,41]) (.seq (.g [
 .m 42 (.t 6),.m 4 (.t 42)] [6,42]) .ret))))))))) }
def Qb:aC:={ eL:=115,mode:=.lS,nparams:=1,aJ:=3,dc:=[],results:=[.box 2 0 11 true],body:=
 (.seq (.g [
 .o 2 (.aE 0 [.i 0,.i 0,.str [],.str [],.i 0,.U,.i 0,.i 0,.i 0,.i 0,.i 0]) []] []) (.seq
 (.g [.m 6 (.t 0),.c 7 13 [.t 6],.o 3 (.aE 1 [.i 0,.str [],.i 0,.i 0]) [],
 .n (.ag 1 4) [.t 3,.t 7]] [6,7]) (.seq (.g [.m 4 (.i 0)] [4]) (.seq (.block 0 (.seq (.g [.m 13 (.t 0),
 .c 14 14 [.t 13,.const (.str [45])],.m 12 (.t 14)] [13,14]) (.cond (.T 12) [] (.g [.m 4 (.i 12)] []) []
 (.seq (.g [.m 16 (.t 0),.c 17 14 [.t 16,.const (.str [33])],.m 15 (.t 17)] [16,17]) (.cond (.T 15) [] (.g [
 .m 4 (.i 13)] []) [3] (.seq (.g [.m 8 (.t 0),.m 9 (.t 0),.c 10 134 [.t 9],
 .c 11 133 [.t 8,.T 10],.n (.ag 0 11) [.t 2,.T 11]] [0,8,9]) .ret)))))) (.seq (.g [.m 18 (.t 0),.f 19 1 (.t 3),
 .l 20 1 (.t 19),.c 21 73 [.t 18,.t 20]] [18,19,20,21]) (.seq (.g [.m 22 (.t 0),
 .c 23 96 [.t 22,.i 5],
 .o 5 (.aE 2 [.i 0,.i 0,.str [],.str [],.i 0,.U,.i 0,.i 0,.i 0,.i 0,.i 0]) [],
 .n (.ag 2 11) [.t 5,.T 23]] [22]) (.seq (.g [.m 24 (.t 0),.o 25 .nilCheck [.t 24],.f 26 2 (.T 25),
 .d 27 (.T 26),.o 28 (.bin .sub) [.t 27,.i 1],.o 29 .nilCheck [.t 24],.f 30 2 (.T 29),
 .n (.store 1) [.T 30,.t 28]] [0,24,27,28]) (.seq (.g [.m 31 (.t 4),.o 32 (.aj 2 true 11 false) [.t 5],
 .o 33 (.lit 11 1 [.i 0,.i 0,.str [],.str [],.i 0,.U,.i 0,.i 0,.i 0,.i 0,.i 0] [0]) [.T 32],
 .f 34 3 (.t 3),.l 35 1 (.t 34),
 .o 36 (.build [.i 0,.i 0,.str [],.str [],.i 0,.U,.i 0,.i 0,.i 0,.i 0,.i 0] [(0,1),(5,1),(6,1)]) [.t 31,.T 33,.t 35],
 .n (.ag 0 11) [.t 2,.T 36]] [3,4,5,31,34,35]) .ret)))))))) }
def uT:bG:=
 (.seq (.seq (.g [.m 23 (.t 7),.m 24 (.t 5),.m 25 (.t 0),.o 26 (.indexAddr 1) [.T 24,.t 25],.d 27 (.T 26),
 .o 28 (.len .sl) [.T 27],.o 29 (.bin .lss) [.t 23,.t 28]] [23,25,28]) (.cond (.T 29) [] .skip [0,3,5,6,7] (.exit 0))) (.seq (.block 1 (.seq (.r [
 .m 32 (.t 5),.m 33 (.t 0),.o 34 (.indexAddr 1) [.T 32,.t 33],.d 35 (.T 34),.m 36 (.t 7),
 .o 37 (.indexAddr 1) [.T 35,.t 36],.d 38 (.T 37),.f 39 1 (.t 3),.l 40 0 (.t 39),
 .o 41 (.bin .eql) [.t 38,.t 40]] (some []) [33,36,38,39,40]) (.cond (.T 41) [3,5] (.seq (.g [.m 42 (.T 6),.m 43 (.t 0),
 .o 44 (.indexAddr 1) [.T 42,.t 43],.d 45 (.T 44),.m 46 (.t 7),.o 47 (.indexAddr 1) [.T 45,.t 46],
 .d 48 (.T 47),.m 4 (.t 48)] [0,7,43,46,48]) .ret) [] .skip))) (.g [.m 30 (.t 7),
 .o 31 (.bin .add) [.t 30,.i 1],.m 7 (.t 31)] [30,31])))
def Hp:aC:={ eL:=116,mode:=.pure,nparams:=2,aJ:=1,dc:=[],results:=[.tmp 4 false],body:=
 (.seq (.g [.o 3 (.dW 0 4) [.t 1],.m 4 (.i 0)] [1,4]) (.seq (.seq (.g [.f 8 0 (.t 3),
 .l 9 0 (.t 8),.o 10 (.bin .neq) [.t 9,.i 4]] [8,9]) (.cond (.T 10) [0,3] (.seq (.g [
 .m 4 (.i 0)] []) .ret) [] .skip)) (.seq (.g [.o 11 (.lit 1 1 [.str []] [0]) [.const (.str [124,124])],
 .o 12 (.lit 1 1 [.str []] [0]) [.const (.str [38,38])],
 .o 13 (.lit 1 4 [.str []] [0,1,2,3]) [.const (.str [60]),.const (.str [60,61]),.const (.str [61,61]),.const (.str [33,61])],
 .o 14 (.lit 1 2 [.str []] [0,1]) [.const (.str [43]),.const (.str [45])],
 .o 15 (.lit 1 3 [.str []] [0,1,2]) [.const (.str [42]),.const (.str [47]),.const (.str [37])],
 .o 16 (.lit 1 5 [.U] [0,1,2,3,4]) [.T 11,.T 12,.T 13,.T 14,.T 15],.m 5 (.T 16)] []) (.seq (.g [
 .o 17 (.lit 1 1 [.i 0] [0]) [.i 24],.o 18 (.lit 1 1 [.i 0] [0]) [.i 23],
 .o 19 (.lit 1 4 [.i 0] [0,1,2,3]) [.i 19,.i 20,.i 21,.i 22],
 .o 20 (.lit 1 2 [.i 0] [0,1]) [.i 14,.i 15],
 .o 21 (.lit 1 3 [.i 0] [0,1,2]) [.i 16,.i 17,.i 18],
 .o 22 (.lit 1 5 [.U] [0,1,2,3,4]) [.T 17,.T 18,.T 19,.T 20,.T 21],.m 6 (.T 22)] []) (.seq (.seq (.g [
 .m 7 (.i 0)] []) (.block 0 (.loop uT))) (.seq (.g [.m 4 (.i 0)] []) .ret)))))) }
def ES:bG:=
 (.seq (.g [.o 9 (.bin .lss) [.t 8,.t 7]] []) (.seq (.cond (.T 9) [] .skip [0,1,7,8] (.exit 0)) (.seq (.block 1 (.seq (.g [.m 10 (.t 8),
 .m 5 (.t 10)] [10]) (.seq (.g [.m 11 (.t 1),.m 12 (.t 0),.m 13 (.t 5),.o 14 (.indexAddr 1) [.T 12,.t 13],
 .d 15 (.T 14),.o 16 (.bin .eql) [.t 11,.t 15]] [11,13,15]) (.cond (.T 16) [0,1,7,8] (.seq (.g [.m 17 (.t 5),
 .m 4 (.t 17)] [5,17]) .ret) [5] .skip)))) (.g [.o 18 (.bin .add) [.t 8,.i 1],.m 8 (.t 18)] [18]))))
def Qc:aC:={ eL:=117,mode:=.pure,nparams:=2,aJ:=0,dc:=[],results:=[.tmp 4 false],body:=
 (.seq (.g [.m 4 (.i 0)] [4]) (.seq (.seq (.g [.m 6 (.t 0),.o 7 (.len .sl) [.T 6],
 .m 8 (.i 0)] []) (.block 0 (.loop ES))) (.seq (.g [.o 4 .move [.const (.i (-1))]] []) .ret))) }
def wC:aC:={ eL:=118,mode:=.pure,nparams:=2,aJ:=2,dc:=[],results:=[.box 4 1 3 true,.tmp 5 false],body:=
 (.seq (.g [.o 3 (.dW 0 2) [.t 1],.o 4 (.aE 1 [.i 0,.i 0,.i 0]) [],.m 5 (.b false)] [1,5]) (.seq
 (.seq (.g [.f 7 1 (.t 3),.l 8 0 (.t 7),.o 9 (.bin .lss) [.t 8,.i 0],.m 10 (.t 9),
 .z 11 (.fieldAddr 1) [.t 3] 10,.z 12 (.aj 0 false 1 false) [.t 11] 10,.z 13 (.bin .gtr) [.t 12,.i 3] 10,
 .o 14 .pick [.t 10,.b true,.t 13]] [7,8,9,10,11,12,13]) (.cond (.T 14) [0,3] (.seq (.g [
 .o 15 (.build [.i 0,.i 0,.i 0] []) [],.n (.ag 1 3) [.t 4,.t 15],.m 5 (.b false)] [15]) .ret) [] .skip))
 (.seq (.seq (.g [.f 16 0 (.t 3),.l 17 0 (.t 16)] [16]) (.block 0 (.seq (.g [
 .o 19 (.bin .eql) [.t 17,.const (.str [105,110,116])],.m 18 (.t 19)] [19]) (.cond (.T 18) [0,17] (.seq (.g [.f 20 1 (.t 3),
 .l 21 0 (.t 20),.o 22 (.build [.i 0,.i 0,.i 0] [(0,1),(2,1)]) [.i 1,.t 21],
 .n (.ag 1 3) [.t 4,.t 22],.m 5 (.b true)] [3,20,21,22]) .ret) [] (.seq (.g [
 .o 24 (.bin .eql) [.t 17,.const (.str [98,111,111,108])],.m 23 (.t 24)] [17,24]) (.cond (.T 23) [0] (.seq (.g [.f 25 1 (.t 3),
 .l 26 0 (.t 25),.o 27 (.build [.i 0,.i 0,.i 0] [(0,1),(2,1)]) [.i 2,.t 26],
 .n (.ag 1 3) [.t 4,.t 27],.m 5 (.b true)] [3,25,26,27]) .ret) [] .skip)))))) (.seq (.g [.m 28 (.T 0),
 .f 29 0 (.t 3),.l 30 0 (.t 29),.c 31 117 [.T 28,.t 30],.m 6 (.t 31)] [29,30,31]) (.seq (.seq
 (.g [.m 32 (.t 6),.o 33 (.bin .lss) [.t 32,.i 0]] [32]) (.cond (.T 33) [3,6] (.seq (.g [
 .o 34 (.build [.i 0,.i 0,.i 0] []) [],.n (.ag 1 3) [.t 4,.t 34],.m 5 (.b false)] [34]) .ret) [] .skip))
 (.seq (.g [.m 35 (.t 6),.f 36 1 (.t 3),.l 37 0 (.t 36),
 .o 38 (.build [.i 0,.i 0,.i 0] [(0,1),(1,1),(2,1)]) [.i 3,.t 35,.t 37],.n (.ag 1 3) [.t 4,.t 38],
 .m 5 (.b true)] [3,6,35,36,37,38]) .ret)))))) }
def X8:aC:={ eL:=119,mode:=.pure,nparams:=0,aJ:=1,dc:=[],results:=[.box 0 0 3 true],body:=
 (.seq (.g [.o 0 (.aE 0 [.i 0,.i 0,.i 0]) []] []) (.seq (.g [
 .o 1 (.build [.i 0,.i 0,.i 0] []) [],.n (.ag 0 3) [.t 0,.t 1]] [1]) .ret)) }
def mP:aC:={ eL:=120,mode:=.lS,nparams:=2,aJ:=1,dc:=[],results:=[.tmp 4 false],body:=
 (.seq (.g [.o 3 (.dW 0 9) [.T 1],.m 4 (.b false)] [4]) (.seq (.seq (.g [.f 5 0 (.t 3),
 .l 6 0 (.t 5)] [5]) (.block 0 (.seq (.g [.o 8 (.bin .eql) [.t 6,.i 1],.m 7 (.t 8)] [8])
 (.cond (.T 7) [0,6] (.seq (.g [.f 9 4 (.t 3),.l 10 0 (.t 9),.o 11 (.len .sl) [.T 10],
 .o 12 (.bin .eql) [.t 11,.i 0],.m 4 (.t 12)] [3,9,11,12]) .ret) [] (.seq (.g [.o 14 (.bin .eql) [.t 6,.i 4],
 .m 13 (.t 14)] [14]) (.cond (.T 13) [0,6] (.seq (.g [.f 15 4 (.t 3),.l 16 0 (.t 15),
 .o 17 (.len .sl) [.T 16],.o 18 (.bin .eql) [.t 17,.i 2],.m 19 (.t 18),.y 20 (.fieldAddr 4) [.t 3] 19,
 .y 21 (.aj 0 false 1 false) [.t 20] 19,.y 22 (.indexAddr 11) [.T 21,.i 0] 19,.y 23 (.fieldAddr 0) [.T 22] 19,
 .y 24 (.load false 1 false) [.T 23] 19,.y 25 (.bin .eql) [.t 24,.i 5] 19,.y 26 .move [.t 25] 19,.z 27 (.fieldAddr 4) [.t 3] 26,
 .z 28 (.aj 0 false 1 false) [.t 27] 26,.z 29 (.indexAddr 11) [.T 28,.i 0] 26,.z 30 (.fieldAddr 0) [.T 29] 26,
 .z 31 (.load false 1 false) [.T 30] 26,.z 32 (.bin .eql) [.t 31,.i 6] 26,.y 33 .pick [.t 26,.b true,.t 32] 19,
 .o 34 .pick [.t 19,.t 33,.b false],.m 4 (.t 34)] [3,15,17,18,19,20,21,22,23,24,25,26,27,28,29,30,31,32,33,34]) .ret) [] (.seq
 (.g [.o 36 (.bin .eql) [.t 6,.i 7],.m 35 (.t 36)] [36]) (.cond (.T 35) [6] (.seq (.g [.f 37 4 (.t 3),
 .l 38 0 (.t 37),.o 39 (.len .sl) [.T 38],.o 40 (.bin .eql) [.t 39,.i 1],.m 41 (.t 40),.y 42 .move [.t 0] 41,
 .y 43 .nilCheck [.t 42] 41,.y 44 (.fieldAddr 5) [.T 43] 41,.y 45 (.fieldAddr 2) [.T 44] 41,.y 46 (.load false 1 false) [.T 45] 41,
 .o 47 .pick [.t 41,.t 46,.b false],.m 48 (.t 47),.z 49 (.fieldAddr 4) [.t 3] 48,.z 50 (.aj 0 false 1 false) [.t 49] 48,
 .z 51 (.len .sl) [.T 50] 48,.z 52 (.bin .eql) [.t 51,.i 0] 48,.z 53 .move [.t 52] 48,.y 54 .move [.t 0] 53,.y 55 .nilCheck [.t 54] 53,
 .y 56 (.fieldAddr 5) [.T 55] 53,.y 57 (.fieldAddr 2) [.T 56] 53,.y 58 (.load false 1 false) [.T 57] 53,.y 59 (.un .not) [.t 58] 53,
 .z 60 .pick [.t 53,.t 59,.b false] 48,.o 61 .pick [.t 48,.b true,.t 60],
 .m 4 (.t 61)] [0,3,37,39,40,41,42,43,44,45,46,47,48,49,50,51,52,53,54,55,56,57,58,59,60,61]) .ret) [0] (.seq (.g [
 .o 63 (.bin .eql) [.t 6,.i 9],.m 62 (.t 63)] [63]) (.cond (.T 62) [6] (.seq (.g [.f 64 4 (.t 3),
 .l 65 0 (.t 64),.o 66 (.len .sl) [.T 65],.o 67 (.bin .eql) [.t 66,.i 1],.m 68 (.t 67),
 .y 69 (.fieldAddr 4) [.t 3] 68,.y 70 (.aj 0 false 1 false) [.t 69] 68,.y 71 (.indexAddr 11) [.T 70,.i 0] 68,
 .y 72 (.fieldAddr 0) [.T 71] 68,.y 73 (.load false 1 false) [.T 72] 68,.y 74 (.bin .eql) [.t 73,.i 7] 68,
 .o 75 .pick [.t 68,.t 74,.b false],.m 4 (.t 75)] [3,64,66,67,68,69,70,71,72,73,74,75]) .ret) [] (.seq (.seq (.g [
 .o 77 (.bin .eql) [.t 6,.i 2],.m 76 (.t 77)] [77]) (.cond (.t 76) [6] .skip [76] (.seq (.g [
 .o 78 (.bin .eql) [.t 6,.i 3],.m 76 (.t 78)] [78]) (.cond (.t 76) [6] .skip [76] (.seq (.g [
 .o 79 (.bin .eql) [.t 6,.i 5],.m 76 (.t 79)] [79]) (.cond (.t 76) [6] .skip [76] (.seq (.g [
 .o 80 (.bin .eql) [.t 6,.i 6],.m 76 (.t 80)] [80]) (.cond (.t 76) [6] .skip [76] (.g [
 .o 81 (.bin .eql) [.t 6,.i 8],.m 76 (.t 81)] [6,81]))))))))) (.cond (.T 76) [] (.seq (.g [.f 82 4 (.t 3),
 .l 83 0 (.t 82),.o 84 (.len .sl) [.T 83],.o 85 (.bin .eql) [.t 84,.i 1],.m 4 (.t 85)] [3,82,84,85])
 .ret) [3] .skip)))))))))))) (.seq (.g [.m 4 (.b false)] []) .ret))) }
def Un:aC:={ eL:=121,mode:=.lS,nparams:=2,aJ:=0,dc:=[],results:=[],body:=
 (.seq (.g [.m 4 (.t 0),.c 5 43 [.t 4],.o 6 (.un .not) [.t 5]] [4,5]) (.cond (.T 6) [] (.g [.m 7 (.t 0),
 .m 8 (.t 1),.o 9 (.build [.i 0,.i 0] [(0,1),(1,1)]) [.i 3,.t 8],.o 10 .nilCheck [.t 7],.f 11 12 (.T 10),
 .n (.store 2) [.T 11,.t 9]] [0,1,7,8,9]) [0,1] .skip)) }
def ET:aC:={ eL:=122,mode:=.lS,nparams:=2,aJ:=3,dc:=[],results:=[.box 4 1 11 true],body:=
 (.seq (.g [.o 3 (.dW 0 11) [.T 1],
 .o 4 (.aE 1 [.i 0,.i 0,.str [],.str [],.i 0,.U,.i 0,.i 0,.i 0,.i 0,.i 0]) []] []) (.seq
 (.seq (.g [.o 7 (.aj 0 true 11 false) [.t 3],.c 8 135 [.T 7],.o 9 (.un .not) [.t 8]] [8]) (.cond (.T 9) [] (.seq (.g [
 .m 10 (.t 0),.f 11 6 (.t 3),.l 12 0 (.t 11),.c 13 121 [.t 10,.t 12]] [0,3,10,11,12,13]) (.seq
 (.g [.o 14 (.build [.i 0,.i 0,.str [],.str [],.i 0,.U,.i 0,.i 0,.i 0,.i 0,.i 0] []) [],
 .n (.ag 1 11) [.t 4,.T 14]] []) .ret)) [] .skip)) (.seq (.g [.o 15 (.aj 0 true 11 false) [.t 3],.c 16 136 [.T 15],
 .o 5 (.aE 2 [.i 0,.i 0,.str [],.str [],.i 0,.U,.i 0,.i 0,.i 0,.i 0,.i 0]) [],
 .n (.ag 2 11) [.t 5,.T 16]] []) (.seq (.g [.m 17 (.t 0),.f 18 5 (.t 3),.l 19 0 (.t 18),
 .c 20 123 [.t 17,.T 19],.f 21 5 (.t 5),.n (.ag 2 1) [.t 21,.T 20]] [17,18,21]) (.seq (.seq (.g [.m 22 (.t 0),
 .c 23 43 [.t 22]] [22]) (.cond (.T 23) [0,3,5] (.seq (.g [
 .o 24 (.build [.i 0,.i 0,.str [],.str [],.i 0,.U,.i 0,.i 0,.i 0,.i 0,.i 0] []) [],
 .n (.ag 1 11) [.t 4,.T 24]] []) .ret) [] .skip)) (.seq (.g [.m 6 (.b false)] [6]) (.seq (.g [.m 26 (.t 0),
 .o 27 (.aj 2 true 11 false) [.t 5],.c 28 137 [.t 26,.T 27],.m 25 (.T 28),.o 29 (.extract 0) [.t 25],.o 30 (.extract 1) [.t 25],
 .o 31 (.extract 2) [.T 25],.f 32 7 (.t 5),.n (.ag 2 3) [.t 32,.t 29],.f 33 10 (.t 5),.n (.ag 2 1) [.t 33,.t 30],
 .m 6 (.t 31)] [26,29,30,31,32,33]) (.seq (.seq (.g [.m 34 (.t 6),.o 35 (.un .not) [.t 34]] [6,34]) (.cond (.T 35) [] (.g [
 .m 36 (.t 0),.f 37 6 (.t 3),.l 38 0 (.t 37),.c 39 121 [.t 36,.t 38]] [0,3,36,37,38,39]) [0,3]
 .skip)) (.seq (.g [.o 40 (.aj 2 true 11 false) [.t 5],.n (.ag 1 11) [.t 4,.T 40]] [5]) .ret))))))))) }
def EU:bG:=
 (.seq (.g [.o 11 (.bin .lss) [.t 10,.t 9]] []) (.seq (.cond (.T 11) [] .skip [0,8,9,10] (.exit 0)) (.seq (.block 1 (.seq (.g [
 .o 12 (.indexAddr 11) [.t 8,.t 10],.o 13 (.load true 11 false) [.T 12],
 .o 7 (.aE 0 [.i 0,.i 0,.str [],.str [],.i 0,.U,.i 0,.i 0,.i 0,.i 0,.i 0]) [],
 .n (.ag 0 11) [.t 7,.T 13]] []) (.seq (.seq (.g [.m 14 (.t 0),.c 15 43 [.t 14]] [14]) (.cond (.T 15) [0,5,7,8,9,10] (.seq
 (.g [.o 4 .move [.const .U]] []) .ret) [] .skip)) (.g [.m 16 (.T 5),.m 17 (.t 0),.o 18 (.aj 0 true 11 false) [.t 7],
 .c 19 138 [.t 17,.T 18],
 .o 20 (.lit 11 1 [.i 0,.i 0,.str [],.str [],.i 0,.U,.i 0,.i 0,.i 0,.i 0,.i 0] [0]) [.T 19],
 .o 21 (.append 11 120) [.T 16,.T 20],.m 5 (.T 21)] [7,17])))) (.g [.o 22 (.bin .add) [.t 10,.i 1],
 .m 10 (.t 22)] [22]))))
def Qd:aC:={ eL:=123,mode:=.lS,nparams:=2,aJ:=1,dc:=[],results:=[.tmp 4 true],body:=
 (.seq (.g [.o 4 .move [.const .U]] [4]) (.seq (.g [.o 5 .move [.const .U]] []) (.seq (.seq (.g [.m 8 (.T 1),
 .o 9 (.len .sl) [.t 8],.m 10 (.i 0)] []) (.block 0 (.loop EU))) (.seq (.g [.m 23 (.T 5),
 .m 4 (.T 23)] []) .ret)))) }
def lK:aC:={ eL:=124,mode:=.lS,nparams:=3,aJ:=3,dc:=[],results:=[.tmp 6 false,.tmp 7 false],body:=
 (.seq (.g [.o 4 (.dW 0 9) [.T 1],.o 5 (.dW 1 3) [.t 2],.m 6 (.i 0),.m 7 (.b false)] [2,6,7]) (.seq
 (.seq (.g [.f 11 0 (.t 4),.l 12 0 (.t 11)] [11]) (.block 0 (.seq (.g [
 .o 14 (.bin .eql) [.t 12,.i 1],.m 13 (.t 14)] [14]) (.cond (.T 13) [12] (.seq (.g [.m 15 (.t 0),
 .f 16 1 (.t 4),.l 17 0 (.t 16),.o 18 (.aj 1 true 3 false) [.t 5],.c 19 139 [.t 15,.t 17,.t 18],
 .o 20 (.extract 0) [.t 19],.o 21 (.extract 1) [.T 19],.m 6 (.t 20),.m 7 (.t 21)] [0,4,5,15,16,17,18,20,21]) .ret) [] (.seq (.g [
 .o 23 (.bin .eql) [.t 12,.i 2],.m 22 (.t 23)] [23]) (.cond (.T 22) [12] (.seq (.seq (.r [.f 24 4 (.t 4),
 .l 25 0 (.t 24),.o 26 (.indexAddr 11) [.T 25,.i 0],.f 27 7 (.T 26),.o 28 (.load true 3 false) [.T 27],
 .o 29 (.aj 1 true 3 false) [.t 5],.o 30 (.eqv (.flat [.int,.int,.int]) true) [.t 28,.t 29]] (some []) [24,28,29]) (.cond (.T 30) [0,4,5] (.seq (.g [
 .m 6 (.i 0),.m 7 (.b false)] []) .ret) [] .skip)) (.seq (.g [.m 31 (.t 0),
 .f 32 1 (.t 4),.l 33 0 (.t 32),.o 34 (.aj 1 true 3 false) [.t 5],.c 35 139 [.t 31,.t 33,.t 34],
 .o 36 (.extract 0) [.t 35],.o 37 (.extract 1) [.T 35],.m 6 (.t 36),.m 7 (.t 37)] [0,4,5,31,32,33,34,36,37]) .ret)) [5] (.seq (.g [
 .o 39 (.bin .eql) [.t 12,.i 3],.m 38 (.t 39)] [39]) (.cond (.T 38) [12] (.seq (.g [.m 41 (.t 0),
 .f 42 1 (.t 4),.l 43 0 (.t 42),.c 44 140 [.t 41,.t 43],.m 40 (.T 44),.o 45 (.extract 0) [.t 40],
 .o 46 (.extract 1) [.t 40],.o 47 (.extract 2) [.T 40],.o 9 (.aE 2 [.i 0,.i 0,.i 0]) [],.m 8 (.t 45),
 .n (.ag 2 3) [.t 9,.t 46],.m 10 (.t 47)] [0,41,42,43,45,46,47]) (.seq (.r [.m 48 (.t 8),.m 49 (.t 10),.m 50 (.t 49),
 .y 51 (.aj 2 true 3 false) [.t 9] 50,.y 52 (.fieldAddr 4) [.t 4] 50,.y 53 (.aj 0 false 1 false) [.t 52] 50,
 .y 54 (.indexAddr 11) [.T 53,.i 0] 50,.y 55 (.fieldAddr 7) [.T 54] 50,.y 56 (.load true 3 false) [.T 55] 50,
 .y 57 (.eqv (.flat [.int,.int,.int]) false) [.t 51,.t 56] 50,.o 58 .pick [.t 50,.t 57,.b false],.m 6 (.t 48),
 .m 7 (.t 58)] (some []) [4,8,9,10,48,49,50,51,52,53,54,55,56,57,58]) .ret)) [] (.seq (.g [.o 60 (.bin .eql) [.t 12,.i 4],
 .m 59 (.t 60)] [60]) (.cond (.T 59) [0,12] (.seq (.r [.f 61 4 (.t 4),.l 62 0 (.t 61),
 .o 63 (.indexAddr 11) [.T 62,.i 0],.f 64 7 (.T 63),.o 65 (.load true 3 false) [.T 64],.f 66 4 (.t 4),
 .l 67 0 (.t 66),.o 68 (.indexAddr 11) [.T 67,.i 1],.f 69 7 (.T 68),.o 70 (.load true 3 false) [.T 69],
 .o 71 (.eqv (.flat [.int,.int,.int]) false) [.t 65,.t 70],.m 6 (.i 0),.m 7 (.t 71)] (some []) [4,61,65,66,70,71]) .ret) [] (.seq
 (.seq (.g [.o 73 (.bin .eql) [.t 12,.i 5],.m 72 (.t 73)] [73]) (.cond (.t 72) [] .skip [72] (.g [
 .o 74 (.bin .eql) [.t 12,.i 6],.m 72 (.t 74)] [74]))) (.cond (.T 72) [0,12] (.seq (.r [.f 75 4 (.t 4),
 .l 76 0 (.t 75),.o 77 (.indexAddr 11) [.T 76,.i 0],.f 78 7 (.T 77),.o 79 (.load true 3 false) [.T 78],
 .c 80 141 [],.o 81 (.eqv (.flat [.int,.int,.int]) false) [.t 79,.t 80],.m 6 (.i 0),
 .m 7 (.t 81)] (some []) [4,75,79,80,81]) .ret) [] (.seq (.g [.o 83 (.bin .eql) [.t 12,.i 7],.m 82 (.t 83)] [83])
 (.cond (.T 82) [12] (.seq (.r [.f 84 4 (.t 4),.l 85 0 (.t 84),.o 86 (.len .sl) [.T 85],
 .o 87 (.bin .eql) [.t 86,.i 0],.m 88 (.t 87),.z 89 (.fieldAddr 4) [.t 4] 88,.z 90 (.aj 0 false 1 false) [.t 89] 88,
 .z 91 (.indexAddr 11) [.T 90,.i 0] 88,.z 92 (.fieldAddr 7) [.T 91] 88,.z 93 (.load true 3 false) [.T 92] 88,.z 94 .move [.t 0] 88,
 .z 95 .nilCheck [.t 94] 88,.z 96 (.fieldAddr 5) [.T 95] 88,.z 97 (.fieldAddr 3) [.T 96] 88,.z 98 (.load true 3 false) [.T 97] 88,
 .z 99 (.eqv (.flat [.int,.int,.int]) false) [.t 93,.t 98] 88,.o 100 .pick [.t 88,.b true,.t 99],.m 6 (.i 0),
 .m 7 (.t 100)] (some []) [0,4,84,86,87,88,89,90,91,92,93,94,95,96,97,98,99,100]) .ret) [0] (.seq (.g [
 .o 102 (.bin .eql) [.t 12,.i 8],.m 101 (.t 102)] [12,102]) (.cond (.T 101) [] (.seq (.r [.f 103 4 (.t 4),
 .l 104 0 (.t 103),.o 105 (.indexAddr 11) [.T 104,.i 0],.f 106 7 (.T 105),
 .o 107 (.load true 3 false) [.T 106],.c 108 142 [],.o 109 (.eqv (.flat [.int,.int,.int]) false) [.t 107,.t 108],.m 6 (.i 0),
 .m 7 (.t 109)] (some []) [4,103,107,108,109]) .ret) [4] .skip)))))))))))))))) (.seq (.g [.m 6 (.i 0),
 .m 7 (.b true)] []) .ret))) }
def KR:bG:=
 (.seq (.g [.o 11 (.bin .lss) [.t 10,.t 9]] []) (.seq (.cond (.T 11) [] .skip [0,8,9,10] (.exit 0)) (.seq (.block 1 (.seq (.g [
 .o 12 (.indexAddr 11) [.t 8,.t 10],.o 13 (.load true 11 false) [.T 12],
 .o 7 (.aE 0 [.i 0,.i 0,.str [],.str [],.i 0,.U,.i 0,.i 0,.i 0,.i 0,.i 0]) [],
 .n (.ag 0 11) [.t 7,.T 13]] []) (.g [.m 14 (.T 5),.m 15 (.t 0),.o 16 (.aj 0 true 11 false) [.t 7],
 .c 17 106 [.t 15,.T 16],.o 18 (.lit 1 1 [.i 0] [0]) [.t 17],.o 19 (.append 1 8) [.T 14,.T 18],.m 5 (.T 19)] [7,15,17])))
 (.g [.o 20 (.bin .add) [.t 10,.i 1],.m 10 (.t 20)] [20]))))
def X9:aC:={ eL:=125,mode:=.CP,nparams:=2,aJ:=1,dc:=[],results:=[.tmp 4 true],body:=
 (.seq (.g [.o 4 .move [.const .U]] [4]) (.seq (.g [.o 5 .move [.const .U]] []) (.seq (.seq (.g [.m 8 (.T 1),
 .o 9 (.len .sl) [.t 8],.m 10 (.i 0)] []) (.block 0 (.loop KR))) (.seq (.g [.m 21 (.T 5),
 .m 4 (.T 21)] []) .ret)))) }
def Ya:aC:={ eL:=126,mode:=.CP,nparams:=2,aJ:=1,dc:=[],results:=[.tmp 4 false],body:=
 (.seq (.g [.o 3 (.dW 0 11) [.T 1],.m 4 (.i 0)] [4]) (.seq (.g [.m 6 (.t 0),
 .o 7 (.aj 0 true 11 false) [.t 3],.c 8 106 [.t 6,.T 7],.m 5 (.t 8)] [3,6,8]) (.seq (.g [.m 9 (.t 0),.m 10 (.t 5),
 .m 11 (.t 0),.c 12 127 [.t 11],.o 13 (.bin .add) [.t 12,.i 1],
 .o 14 (.build [.i 0,.i 0,.i 0,.i 0,.i 0,.U] [(0,1),(1,1),(4,1)]) [.i 17,.t 10,.t 13],
 .c 15 48 [.t 9,.T 14],.m 4 (.t 15)] [0,5,9,10,11,12,13,15]) .ret))) }
def Uo:aC:={ eL:=127,mode:=.lS,nparams:=1,aJ:=0,dc:=[],results:=[.tmp 2 false],body:=
 (.seq (.g [.m 2 (.i 0)] [2]) (.seq (.g [.m 3 (.t 0),.o 4 .nilCheck [.t 3],.f 5 5 (.T 4),
 .f 6 6 (.T 5),.d 7 (.T 6),.o 8 (.len .sl) [.T 7],.m 2 (.t 8)] [0,3,8]) .ret)) }
def Qe:aC:={ eL:=128,mode:=.CP,nparams:=3,aJ:=1,dc:=[],results:=[.tmp 6 false],body:=
 (.seq (.g [.o 4 (.dW 0 11) [.T 1],.m 6 (.i 0)] [6]) (.seq (.g [.o 7 .move [.const (.i (-1))]] []) (.seq
 (.seq (.g [.f 8 7 (.t 4),.o 9 (.aj 0 true 3 false) [.t 8],.o 10 (.build [.i 0,.i 0,.i 0] []) [],
 .o 11 (.eqv (.flat [.int,.int,.int]) true) [.t 9,.t 10]] [8,9,10]) (.cond (.T 11) [7] (.g [.m 12 (.t 0),.f 13 7 (.t 4),
 .o 14 (.aj 0 true 3 false) [.t 13],.c 15 47 [.t 12,.t 14],.m 7 (.t 15)] [12,13,14,15]) [] .skip)) (.seq (.g [.m 16 (.t 0),
 .m 17 (.t 7),.f 18 10 (.t 4),.l 19 0 (.t 18),.m 20 (.T 2),
 .o 21 (.build [.i 0,.i 0,.i 0,.i 0,.i 0,.U] [(0,1),(1,1),(3,1),(5,1)]) [.i 13,.t 17,.t 19,.T 20],
 .c 22 48 [.t 16,.T 21]] [0,4,16,17,18,19,22]) (.seq (.g [.m 23 (.t 7),.m 6 (.t 23)] [7,23]) .ret))))) }
def Yb:aC:={ eL:=129,mode:=.lS,nparams:=3,aJ:=2,dc:=[],results:=[.box 6 1 6 true],body:=
 (.seq (.g [.o 4 (.dW 0 11) [.T 1],.o 6 (.aE 1 [.i 0,.i 0,.i 0,.i 0,.i 0,.U]) []] []) (.seq (.seq
 (.g [.f 7 0 (.t 4),.l 8 0 (.t 7)] [7]) (.block 0 (.seq (.seq (.g [
 .o 10 (.bin .eql) [.t 8,.i 1],.m 9 (.t 10)] [10]) (.cond (.t 9) [] .skip [9] (.g [
 .o 11 (.bin .eql) [.t 8,.i 2],.m 9 (.t 11)] [11]))) (.cond (.T 9) [0,2,8] (.seq (.g [.f 12 1 (.t 4),
 .l 13 0 (.t 12),
 .o 14 (.build [.i 0,.i 0,.i 0,.i 0,.i 0,.U] [(0,1),(4,1)]) [.i 1,.t 13],
 .n (.ag 1 6) [.t 6,.T 14]] [4,12,13]) .ret) [] (.seq (.g [.o 16 (.bin .eql) [.t 8,.i 3],.m 15 (.t 16)] [16])
 (.cond (.T 15) [0,2,4,8] (.seq (.g [.o 17 (.build [.i 0,.i 0,.i 0,.i 0,.i 0,.U] [(0,1)]) [.i 2],
 .n (.ag 1 6) [.t 6,.T 17]] []) .ret) [] (.seq (.g [.o 19 (.bin .eql) [.t 8,.i 4],.m 18 (.t 19)] [19])
 (.cond (.T 18) [0,2,8] (.seq (.g [.f 20 10 (.t 4),.l 21 0 (.t 20),
 .o 22 (.bin .sub) [.const (.i (-1)),.t 21],
 .o 23 (.build [.i 0,.i 0,.i 0,.i 0,.i 0,.U] [(0,1),(4,1)]) [.i 19,.t 22],
 .n (.ag 1 6) [.t 6,.T 23]] [4,20,21,22]) .ret) [] (.seq (.g [.o 25 (.bin .eql) [.t 8,.i 5],.m 24 (.t 25)] [25])
 (.cond (.T 24) [0,8] (.seq (.r [.m 26 (.T 2),.o 27 (.indexAddr 1) [.T 26,.i 0],.d 28 (.T 27),
 .f 29 10 (.t 4),.l 30 0 (.t 29),
 .o 31 (.build [.i 0,.i 0,.i 0,.i 0,.i 0,.U] [(0,1),(2,1),(3,1)]) [.i 6,.t 28,.t 30],
 .n (.ag 1 6) [.t 6,.T 31]] (some []) [4,28,29,30]) .ret) [] (.seq (.g [.o 33 (.bin .eql) [.t 8,.i 6],
 .m 32 (.t 33)] [33]) (.cond (.T 32) [0,4,8] (.seq (.r [.m 34 (.t 2),.o 35 (.indexAddr 1) [.T 34,.i 0],
 .d 36 (.T 35),.m 37 (.t 2),.o 38 (.indexAddr 1) [.T 37,.i 1],.d 39 (.T 38),
 .o 40 (.build [.i 0,.i 0,.i 0,.i 0,.i 0,.U] [(0,1),(2,1),(3,1)]) [.i 8,.t 36,.t 39],
 .n (.ag 1 6) [.t 6,.T 40]] (some []) [2,36,39]) .ret) [] (.seq (.g [.o 42 (.bin .eql) [.t 8,.i 8],.m 41 (.t 42)] [42])
 (.cond (.T 41) [2,8] (.seq (.g [.m 43 (.t 0),.f 44 7 (.t 4),.o 45 (.aj 0 true 3 false) [.t 44],.c 46 143 [.t 43,.t 45],
 .o 47 (.build [.i 0,.i 0,.i 0,.i 0,.i 0,.U] [(0,1),(4,1)]) [.i 11,.t 46],
 .n (.ag 1 6) [.t 6,.T 47]] [0,4,43,44,45,46]) .ret) [] (.seq (.g [.o 49 (.bin .eql) [.t 8,.i 9],
 .m 48 (.t 49)] [49]) (.cond (.T 48) [8] (.seq (.r [.m 50 (.T 2),.o 51 (.indexAddr 1) [.T 50,.i 0],
 .d 52 (.T 51),.m 53 (.t 0),.f 54 7 (.t 4),.o 55 (.aj 0 true 3 false) [.t 54],.c 56 143 [.t 53,.t 55],
 .o 57 (.build [.i 0,.i 0,.i 0,.i 0,.i 0,.U] [(0,1),(2,1),(4,1)]) [.i 12,.t 52,.t 56],
 .n (.ag 1 6) [.t 6,.T 57]] (some [(1,6),(2,6)]) [0,4,52,53,54,55,56]) .ret) [0] (.seq (.g [.o 59 (.bin .eql) [.t 8,.i 10],
 .m 58 (.t 59)] [59]) (.cond (.T 58) [4,8] (.seq (.g [.m 60 (.T 2),.o 61 (.indexAddr 1) [.T 60,.i 0],
 .d 62 (.T 61),
 .o 63 (.build [.i 0,.i 0,.i 0,.i 0,.i 0,.U] [(0,1),(2,1)]) [.i 10,.t 62],
 .n (.ag 1 6) [.t 6,.T 63]] [62]) .ret) [] (.seq (.g [.o 65 (.bin .eql) [.t 8,.i 11],.m 64 (.t 65)] [65])
 (.cond (.T 64) [2,4,8] (.seq (.g [.o 66 (.build [.i 0,.i 0,.i 0,.i 0,.i 0,.U] [(0,1)]) [.i 14],
 .n (.ag 1 6) [.t 6,.T 66]] []) .ret) [] (.seq (.seq (.g [.o 68 (.bin .eql) [.t 8,.i 12],.m 67 (.t 68)] [68])
 (.cond (.t 67) [8] .skip [67] (.g [.o 69 (.bin .eql) [.t 8,.i 13],.m 67 (.t 69)] [8,69]))) (.cond (.T 67) [] (.seq
 (.r [.m 70 (.T 2),.o 71 (.indexAddr 1) [.T 70,.i 0],.d 72 (.T 71),.f 73 0 (.t 4),
 .l 74 0 (.t 73),
 .o 75 (.build [.i 0,.i 0,.i 0,.i 0,.i 0,.U] [(0,1),(2,1),(4,1)]) [.i 5,.t 72,.t 74],
 .n (.ag 1 6) [.t 6,.T 75]] (some []) [4,72,73,74]) .ret) [] .skip)))))))))))))))))))))) (.seq (.r [.m 76 (.t 2),
 .o 77 (.indexAddr 1) [.T 76,.i 0],.d 78 (.T 77),.m 79 (.t 2),.o 80 (.indexAddr 1) [.T 79,.i 1],
 .d 81 (.T 80),.f 82 0 (.t 4),.l 83 0 (.t 82),
 .o 84 (.build [.i 0,.i 0,.i 0,.i 0,.i 0,.U] [(0,1),(2,1),(3,1),(4,1)]) [.i 4,.t 78,.t 81,.t 83],
 .n (.ag 1 6) [.t 6,.T 84]] (some []) [2,4,78,81,82,83]) .ret))) }
def KS:bG:=
 (.seq (.seq (.g [.m 7 (.t 0),.c 8 14 [.t 7,.const (.str [46])],.m 9 (.t 8),.z 10 .move [.t 0] 9,
 .z 11 (.call 14) [.t 10,.const (.str [91])] 9,.o 12 .pick [.t 9,.b true,.t 11]] [7,8,9,10,11]) (.cond (.T 12) [] .skip [0] (.exit 0)))
 (.block 1 (.seq (.g [.m 13 (.t 0),.c 14 13 [.t 13],.o 5 (.aE 2 [.i 0,.str [],.i 0,.i 0]) [],
 .n (.ag 2 4) [.t 5,.t 14]] [13,14]) (.seq (.seq (.g [.m 15 (.t 0),.c 16 14 [.t 15,.const (.str [46])]] [15])
 (.cond (.T 16) [] (.seq (.g [.m 17 (.t 0),.o 18 .nilCheck [.t 17],.f 19 1 (.T 18),.d 20 (.T 19),
 .o 21 (.bin .add) [.t 20,.i 1],.o 22 .nilCheck [.t 17],.f 23 1 (.T 22),.n (.store 1) [.T 23,.t 21]] [17,20,21]) (.seq
 (.r [.m 24 (.t 0),.c 25 38 [.t 24],.o 26 (.aj 0 true 11 false) [.t 3],
 .o 27 (.lit 11 1 [.i 0,.i 0,.str [],.str [],.i 0,.U,.i 0,.i 0,.i 0,.i 0,.i 0] [0]) [.T 26],
 .f 28 3 (.t 5),.l 29 2 (.t 28),
 .o 30 (.build [.i 0,.i 0,.str [],.str [],.i 0,.U,.i 0,.i 0,.i 0,.i 0,.i 0] [(0,1),(2,1),(5,1),(6,1)]) [.i 5,.t 25,.T 27,.t 29],
 .n (.ag 0 11) [.t 3,.T 30]] (some []) [5,24,25,28,29]) (.exit 1))) [] .skip)) (.seq (.g [.m 31 (.t 0),
 .c 32 73 [.t 31,.const (.str [91])]] [31,32]) (.seq (.g [.m 33 (.t 0),.c 34 96 [.t 33,.i 0],
 .o 6 (.aE 3 [.i 0,.i 0,.str [],.str [],.i 0,.U,.i 0,.i 0,.i 0,.i 0,.i 0]) [],
 .n (.ag 3 11) [.t 6,.T 34]] [33]) (.seq (.g [.m 35 (.t 0),.c 36 75 [.t 35,.const (.str [93])]] [35,36]) (.g [
 .o 37 (.aj 0 true 11 false) [.t 3],.o 38 (.aj 3 true 11 false) [.t 6],
 .o 39 (.lit 11 2 [.i 0,.i 0,.str [],.str [],.i 0,.U,.i 0,.i 0,.i 0,.i 0,.i 0] [0,1]) [.T 37,.T 38],
 .f 40 3 (.t 5),.l 41 2 (.t 40),
 .o 42 (.build [.i 0,.i 0,.str [],.str [],.i 0,.U,.i 0,.i 0,.i 0,.i 0,.i 0] [(0,1),(5,1),(6,1)]) [.i 6,.T 39,.t 41],
 .n (.ag 0 11) [.t 3,.T 42]] [5,6,40,41]))))))))
def Yc:aC:={ eL:=133,mode:=.lS,nparams:=2,aJ:=4,dc:=[],results:=[.box 4 1 11 true],body:=
 (.seq (.g [.o 3 (.dW 0 11) [.T 1],
 .o 4 (.aE 1 [.i 0,.i 0,.str [],.str [],.i 0,.U,.i 0,.i 0,.i 0,.i 0,.i 0]) []] []) (.seq
 (.block 0 (.loop KS)) (.seq (.g [.o 43 (.aj 0 true 11 false) [.t 3],.n (.ag 1 11) [.t 4,.T 43]] [3]) .ret))) }
def pE:aC:={ eL:=134,mode:=.lS,nparams:=1,aJ:=2,dc:=[],results:=[.box 2 0 11 true],body:=
 (.seq (.g [
 .o 2 (.aE 0 [.i 0,.i 0,.str [],.str [],.i 0,.U,.i 0,.i 0,.i 0,.i 0,.i 0]) []] []) (.seq
 (.g [.m 6 (.t 0),.c 7 13 [.t 6],.o 3 (.aE 1 [.i 0,.str [],.i 0,.i 0]) [],
 .n (.ag 1 4) [.t 3,.t 7]] [6,7]) (.seq (.block 0 (.seq (.g [.m 9 (.t 0),.c 10 12 [.t 9],.m 11 (.t 10),
 .y 12 (.fieldAddr 0) [.t 3] 11,.y 13 (.aj 1 false 1 false) [.t 12] 11,.y 14 (.bin .eql) [.t 13,.i 2] 11,
 .o 15 .pick [.t 11,.t 14,.b false],.m 8 (.t 15)] [9,10,11,12,13,14,15]) (.cond (.T 8) [] (.seq (.g [.m 16 (.t 0),
 .o 17 .nilCheck [.t 16],.f 18 1 (.T 17),.d 19 (.T 18),.o 20 (.bin .add) [.t 19,.i 1],
 .o 21 .nilCheck [.t 16],.f 22 1 (.T 21),.n (.store 1) [.T 22,.t 20]] [0,16,19,20]) (.seq (.g [.f 23 2 (.t 3),
 .l 24 1 (.t 23),.f 25 3 (.t 3),.l 26 1 (.t 25),
 .o 27 (.build [.i 0,.i 0,.str [],.str [],.i 0,.U,.i 0,.i 0,.i 0,.i 0,.i 0] [(0,1),(1,1),(6,1)]) [.i 1,.t 24,.t 26],
 .n (.ag 0 11) [.t 2,.T 27]] [3,23,24,25,26]) .ret)) [] (.seq (.seq (.g [.m 29 (.t 0),
 .c 30 14 [.t 29,.const (.str [116,114,117,101])],.m 28 (.t 30)] [29,30]) (.cond (.t 28) [] .skip [28] (.g [.m 31 (.t 0),
 .c 32 14 [.t 31,.const (.str [102,97,108,115,101])],.m 28 (.t 32)] [31,32]))) (.cond (.T 28) [] (.seq (.g [.m 33 (.t 0),
 .o 34 .nilCheck [.t 33],.f 35 1 (.T 34),.d 36 (.T 35),.o 37 (.bin .add) [.t 36,.i 1],
 .o 38 .nilCheck [.t 33],.f 39 1 (.T 38),.n (.store 1) [.T 39,.t 37]] [0,33,36,37]) (.seq (.g [
 .m 4 (.i 0)] []) (.seq (.seq (.g [.f 40 1 (.t 3),.l 41 1 (.t 40),
 .o 42 (.bin .eql) [.t 41,.const (.str [116,114,117,101])]] [40,41]) (.cond (.T 42) [4] (.g [.m 4 (.i 1)] []) [] .skip))
 (.seq (.g [.m 43 (.t 4),.f 44 3 (.t 3),.l 45 1 (.t 44),
 .o 46 (.build [.i 0,.i 0,.str [],.str [],.i 0,.U,.i 0,.i 0,.i 0,.i 0,.i 0] [(0,1),(1,1),(6,1)]) [.i 2,.t 43,.t 45],
 .n (.ag 0 11) [.t 2,.T 46]] [3,4,43,44,45]) .ret)))) [] (.seq (.g [.m 48 (.t 0),
 .c 49 14 [.t 48,.const (.str [110,117,108,108])],.m 47 (.t 49)] [48,49]) (.cond (.T 47) [] (.seq (.g [.m 50 (.t 0),
 .o 51 .nilCheck [.t 50],.f 52 1 (.T 51),.d 53 (.T 52),.o 54 (.bin .add) [.t 53,.i 1],
 .o 55 .nilCheck [.t 50],.f 56 1 (.T 55),.n (.store 1) [.T 56,.t 54]] [50,53,54]) (.seq (.r [.m 57 (.t 0),
 .c 58 39 [.t 57],.f 59 3 (.t 3),.l 60 1 (.t 59),
 .o 61 (.build [.i 0,.i 0,.str [],.str [],.i 0,.U,.i 0,.i 0,.i 0,.i 0,.i 0] [(0,1),(3,2),(6,1)]) [.i 3,.t 58,.t 60],
 .n (.ag 0 11) [.t 2,.T 61]] (some []) [0,3,57,58,59,60]) .ret)) [] (.seq (.g [.m 63 (.t 0),
 .c 64 14 [.t 63,.const (.str [110,101,119])],.m 62 (.t 64)] [63,64]) (.cond (.T 62) [] (.seq (.g [.m 65 (.t 0),
 .o 66 .nilCheck [.t 65],.f 67 1 (.T 66),.d 68 (.T 67),.o 69 (.bin .add) [.t 68,.i 1],
 .o 70 .nilCheck [.t 65],.f 71 1 (.T 70),.n (.store 1) [.T 71,.t 69]] [65,68,69]) (.seq (.g [.m 72 (.t 0),
 .f 73 3 (.t 3),.l 74 1 (.t 73),.c 75 145 [.t 72,.t 74],.n (.ag 0 11) [.t 2,.T 75]] [0,3,72,73,74])
 .ret)) [] (.seq (.g [.m 77 (.t 0),.c 78 14 [.t 77,.const (.str [108,101,110])],.m 76 (.t 78)] [77,78]) (.cond (.T 76) []
 (.seq (.g [.m 79 (.t 0),.o 80 .nilCheck [.t 79],.f 81 1 (.T 80),.d 82 (.T 81),
 .o 83 (.bin .add) [.t 82,.i 1],.o 84 .nilCheck [.t 79],.f 85 1 (.T 84),.n (.store 1) [.T 85,.t 83]] [79,82,83]) (.seq
 (.r [.m 86 (.t 0),.c 87 146 [.t 86],
 .o 88 (.lit 11 1 [.i 0,.i 0,.str [],.str [],.i 0,.U,.i 0,.i 0,.i 0,.i 0,.i 0] [0]) [.T 87],
 .f 89 3 (.t 3),.l 90 1 (.t 89),
 .o 91 (.build [.i 0,.i 0,.str [],.str [],.i 0,.U,.i 0,.i 0,.i 0,.i 0,.i 0] [(0,1),(5,1),(6,1)]) [.i 10,.T 88,.t 90],
 .n (.ag 0 11) [.t 2,.T 91]] (some []) [0,3,86,89,90]) .ret)) [] (.seq (.g [.m 93 (.t 0),
 .c 94 14 [.t 93,.const (.str [114,101,97,100])],.m 92 (.t 94)] [93,94]) (.cond (.T 92) [] (.seq (.g [.m 95 (.t 0),
 .o 96 .nilCheck [.t 95],.f 97 1 (.T 96),.d 98 (.T 97),.o 99 (.bin .add) [.t 98,.i 1],
 .o 100 .nilCheck [.t 95],.f 101 1 (.T 100),.n (.store 1) [.T 101,.t 99]] [95,98,99]) (.seq (.g [.m 102 (.t 0),
 .c 103 73 [.t 102,.const (.str [40])]] [102,103]) (.seq (.g [.m 104 (.t 0),
 .c 105 75 [.t 104,.const (.str [41])]] [0,104,105]) (.seq (.g [.f 106 3 (.t 3),.l 107 1 (.t 106),
 .o 108 (.build [.i 0,.i 0,.str [],.str [],.i 0,.U,.i 0,.i 0,.i 0,.i 0,.i 0] [(0,1),(6,1)]) [.i 11,.t 107],
 .n (.ag 0 11) [.t 2,.T 108]] [3,106,107]) .ret)))) [] (.seq (.g [.m 110 (.t 0),.c 111 14 [.t 110,.const (.str [40])],
 .m 109 (.t 111)] [110,111]) (.cond (.T 109) [3] (.seq (.g [.m 112 (.t 0),.c 113 146 [.t 112],
 .n (.ag 0 11) [.t 2,.T 113]] [0,112]) .ret) [] .skip))))))))))))))) (.seq (.g [.m 114 (.t 0),.c 115 38 [.t 114],
 .m 5 (.t 115)] [114,115]) (.seq (.seq (.g [.m 116 (.t 0),.c 117 14 [.t 116,.const (.str [40])],
 .o 118 (.un .not) [.t 117]] [116,117]) (.cond (.T 118) [0] (.seq (.g [.m 119 (.t 5),.f 120 3 (.t 3),
 .l 121 1 (.t 120),
 .o 122 (.build [.i 0,.i 0,.str [],.str [],.i 0,.U,.i 0,.i 0,.i 0,.i 0,.i 0] [(0,1),(2,1),(6,1)]) [.i 4,.t 119,.t 121],
 .n (.ag 0 11) [.t 2,.T 122]] [3,5,119,120,121]) .ret) [] .skip)) (.seq (.r [.m 123 (.t 5),.m 124 (.t 0),
 .c 125 147 [.t 124],.f 126 3 (.t 3),.l 127 1 (.t 126),
 .o 128 (.build [.i 0,.i 0,.str [],.str [],.i 0,.U,.i 0,.i 0,.i 0,.i 0,.i 0] [(0,1),(2,1),(5,1),(6,1)]) [.i 7,.t 123,.T 125,.t 127],
 .n (.ag 0 11) [.t 2,.T 128]] (some []) [0,3,5,123,124,126,127]) .ret)))))) }
def qY:aC:={ eL:=135,mode:=.pure,nparams:=1,aJ:=1,dc:=[],results:=[.tmp 2 false],body:=
 (.seq (.g [.o 1 (.dW 0 11) [.T 0],.m 2 (.b false)] [2]) (.seq (.seq (.g [.f 3 0 (.t 1),
 .l 4 0 (.t 3)] [3]) (.block 0 (.seq (.seq (.g [.o 6 (.bin .eql) [.t 4,.i 1],.m 5 (.t 6)] [6])
 (.cond (.t 5) [] .skip [5] (.seq (.g [.o 7 (.bin .eql) [.t 4,.i 3],.m 5 (.t 7)] [7]) (.cond (.t 5) [] .skip [5] (.seq
 (.g [.o 8 (.bin .eql) [.t 4,.i 4],.m 5 (.t 8)] [8]) (.cond (.t 5) [] .skip [5] (.seq (.g [
 .o 9 (.bin .eql) [.t 4,.i 8],.m 5 (.t 9)] [9]) (.cond (.t 5) [] .skip [5] (.g [
 .o 10 (.bin .eql) [.t 4,.i 11],.m 5 (.t 10)] [10]))))))))) (.cond (.T 5) [4] (.seq (.g [.f 11 5 (.t 1),
 .l 12 0 (.t 11),.o 13 (.len .sl) [.T 12],.o 14 (.bin .eql) [.t 13,.i 0],.m 2 (.t 14)] [1,11,13,14])
 .ret) [] (.seq (.g [.o 16 (.bin .eql) [.t 4,.i 2],.m 15 (.t 16)] [16]) (.cond (.T 15) [4] (.seq (.g [
 .f 17 5 (.t 1),.l 18 0 (.t 17),.o 19 (.len .sl) [.T 18],.o 20 (.bin .eql) [.t 19,.i 0],
 .m 21 (.t 20),.y 22 (.fieldAddr 1) [.t 1] 21,.y 23 (.aj 0 false 1 false) [.t 22] 21,.y 24 (.bin .eql) [.t 23,.i 0] 21,
 .y 25 .move [.t 24] 21,.z 26 (.fieldAddr 1) [.t 1] 25,.z 27 (.aj 0 false 1 false) [.t 26] 25,.z 28 (.bin .eql) [.t 27,.i 1] 25,
 .y 29 .pick [.t 25,.b true,.t 28] 21,.o 30 .pick [.t 21,.t 29,.b false],
 .m 2 (.t 30)] [1,17,19,20,21,22,23,24,25,26,27,28,29,30]) .ret) [] (.seq (.g [.o 32 (.bin .eql) [.t 4,.i 7],
 .m 31 (.t 32)] [32]) (.cond (.T 31) [1,4] (.seq (.g [.m 2 (.b true)] []) .ret) [] (.seq (.seq (.g [
 .o 34 (.bin .eql) [.t 4,.i 5],.m 33 (.t 34)] [34]) (.cond (.t 33) [4] .skip [33] (.seq (.g [
 .o 35 (.bin .eql) [.t 4,.i 9],.m 33 (.t 35)] [35]) (.cond (.t 33) [4] .skip [33] (.seq (.g [
 .o 36 (.bin .eql) [.t 4,.i 10],.m 33 (.t 36)] [36]) (.cond (.t 33) [4] .skip [33] (.seq (.g [
 .o 37 (.bin .eql) [.t 4,.i 12],.m 33 (.t 37)] [37]) (.cond (.t 33) [4] .skip [33] (.g [
 .o 38 (.bin .eql) [.t 4,.i 13],.m 33 (.t 38)] [4,38]))))))))) (.cond (.T 33) [] (.seq (.g [.f 39 5 (.t 1),
 .l 40 0 (.t 39),.o 41 (.len .sl) [.T 40],.o 42 (.bin .eql) [.t 41,.i 1],.m 2 (.t 42)] [1,39,41,42])
 .ret) [] .skip)))))))))) (.seq (.g [.f 43 0 (.t 1),.l 44 0 (.t 43),.o 45 (.bin .eql) [.t 44,.i 6],
 .m 46 (.t 45),.z 47 (.fieldAddr 0) [.t 1] 46,.z 48 (.aj 0 false 1 false) [.t 47] 46,.z 49 (.bin .geq) [.t 48,.i 14] 46,
 .z 50 .move [.t 49] 46,.y 51 (.fieldAddr 0) [.t 1] 50,.y 52 (.aj 0 false 1 false) [.t 51] 50,.y 53 (.bin .leq) [.t 52,.i 24] 50,
 .z 54 .pick [.t 50,.t 53,.b false] 46,.o 55 .pick [.t 46,.b true,.t 54],.m 56 (.t 55),.y 57 (.fieldAddr 5) [.t 1] 56,
 .y 58 (.aj 0 false 1 false) [.t 57] 56,.y 59 (.len .sl) [.T 58] 56,.y 60 (.bin .eql) [.t 59,.i 2] 56,
 .o 61 .pick [.t 56,.t 60,.b false],.m 2 (.t 61)] [1,43,44,45,46,47,48,49,50,51,52,53,54,55,56,57,58,59,60,61]) .ret))) }
def BO:aC:={ eL:=136,mode:=.pure,nparams:=1,aJ:=3,dc:=[],results:=[.box 2 1 11 true],body:=
 (.seq (.g [.o 1 (.dW 0 11) [.T 0],
 .o 2 (.aE 1 [.i 0,.i 0,.str [],.str [],.i 0,.U,.i 0,.i 0,.i 0,.i 0,.i 0]) []] []) (.seq
 (.g [.f 4 0 (.t 1),.l 5 0 (.t 4),.f 6 6 (.t 1),.l 7 0 (.t 6),
 .o 8 (.build [.i 0,.i 0,.str [],.str [],.i 0,.U,.i 0,.i 0,.i 0,.i 0,.i 0] [(0,1),(6,1)]) [.t 5,.t 7],
 .o 3 (.aE 2 [.i 0,.i 0,.str [],.str [],.i 0,.U,.i 0,.i 0,.i 0,.i 0,.i 0]) [],
 .n (.ag 2 11) [.t 3,.T 8]] [4,5,6,7]) (.seq (.seq (.g [.f 9 0 (.t 1),.l 10 0 (.t 9)] [9]) (.block 0
 (.seq (.seq (.g [.o 12 (.bin .eql) [.t 10,.i 1],.m 11 (.t 12)] [12]) (.cond (.t 11) [] .skip [11] (.g [
 .o 13 (.bin .eql) [.t 10,.i 2],.m 11 (.t 13)] [13]))) (.cond (.T 11) [10] (.g [.f 14 1 (.t 1),
 .l 15 0 (.t 14),.f 16 1 (.t 3),.n (.ag 2 1) [.t 16,.t 15]] [1,14,15,16]) [] (.seq (.seq (.g [
 .o 18 (.bin .eql) [.t 10,.i 3],.m 17 (.t 18)] [18]) (.cond (.t 17) [] .skip [17] (.seq (.g [
 .o 19 (.bin .eql) [.t 10,.i 8],.m 17 (.t 19)] [19]) (.cond (.t 17) [] .skip [17] (.g [
 .o 20 (.bin .eql) [.t 10,.i 9],.m 17 (.t 20)] [20]))))) (.cond (.T 17) [10] (.g [.f 21 3 (.t 1),
 .o 22 (.aj 0 true 2 false) [.t 21],.f 23 3 (.t 3),.n (.ag 2 2) [.t 23,.t 22]] [1,21,22,23]) [] (.seq (.seq (.g [
 .o 25 (.bin .eql) [.t 10,.i 4],.m 24 (.t 25)] [25]) (.cond (.t 24) [10] .skip [24] (.seq (.g [
 .o 26 (.bin .eql) [.t 10,.i 5],.m 24 (.t 26)] [26]) (.cond (.t 24) [10] .skip [24] (.g [
 .o 27 (.bin .eql) [.t 10,.i 7],.m 24 (.t 27)] [10,27]))))) (.cond (.T 24) [] (.g [.f 28 2 (.t 1),
 .l 29 0 (.t 28),.f 30 2 (.t 3),.n (.ag 2 1) [.t 30,.t 29]] [1,28,29,30]) [1] .skip)))))))) (.seq (.g [
 .o 31 (.aj 2 true 11 false) [.t 3],.n (.ag 1 11) [.t 2,.T 31]] [3]) .ret)))) }
def jQ:aC:={ eL:=137,mode:=.lS,nparams:=2,aJ:=8,dc:=[],results:=[.box 4 1 3 true,.tmp 5 false,.tmp 6 false],body:=
 (.seq (.g [.o 3 (.dW 0 11) [.T 1],.o 4 (.aE 1 [.i 0,.i 0,.i 0]) [],.m 5 (.i 0),
 .m 6 (.b false)] [5,6]) (.seq (.seq (.g [.f 19 0 (.t 3),.l 20 0 (.t 19)] [19])
 (.block 0 (.seq (.seq (.g [.o 22 (.bin .eql) [.t 20,.i 1],.m 21 (.t 22)] [22]) (.cond (.t 21) [] .skip [21] (.g [
 .o 23 (.bin .eql) [.t 20,.i 11],.m 21 (.t 23)] [23]))) (.cond (.T 21) [0,3,20] (.seq (.g [.c 24 142 [],
 .n (.ag 1 3) [.t 4,.t 24],.m 5 (.i 0),.m 6 (.b true)] [24]) .ret) [] (.seq (.g [
 .o 26 (.bin .eql) [.t 20,.i 2],.m 25 (.t 26)] [26]) (.cond (.T 25) [0,3,20] (.seq (.g [.c 27 141 [],
 .n (.ag 1 3) [.t 4,.t 27],.m 5 (.i 0),.m 6 (.b true)] [27]) .ret) [] (.seq (.g [
 .o 29 (.bin .eql) [.t 20,.i 3],.m 28 (.t 29)] [29]) (.cond (.T 28) [20] (.seq (.r [.m 31 (.t 0),
 .o 32 .nilCheck [.t 31],.f 33 4 (.T 32),.d 34 (.T 33),.f 35 3 (.t 3),
 .o 36 (.aj 0 true 2 false) [.t 35],.c 37 118 [.T 34,.t 36],.m 30 (.T 37),.o 38 (.extract 0) [.t 30],.o 39 (.extract 1) [.t 30],
 .o 7 (.aE 2 [.i 0,.i 0,.i 0]) [],.n (.ag 2 3) [.t 7,.t 38],.m 8 (.t 39)] (some []) [0,3,30,31,35,36,38,39]) (.seq
 (.r [.o 40 (.aj 2 true 3 false) [.t 7],.m 41 (.t 8),.m 42 (.t 41),.y 43 (.aj 2 true 3 false) [.t 7] 42,
 .y 44 (.call 46) [.t 43] 42,.o 45 .pick [.t 42,.t 44,.b false],.n (.ag 1 3) [.t 4,.t 40],.m 5 (.i 0),
 .m 6 (.t 45)] (some []) [7,8,40,41,42,43,44,45]) .ret)) [] (.seq (.g [.o 47 (.bin .eql) [.t 20,.i 4],
 .m 46 (.t 47)] [47]) (.cond (.T 46) [20] (.seq (.g [.m 49 (.t 0),.f 50 2 (.t 3),.l 51 0 (.t 50),
 .c 52 140 [.t 49,.t 51],.m 48 (.T 52),.o 53 (.extract 0) [.t 48],.o 54 (.extract 1) [.t 48],.o 55 (.extract 2) [.T 48],
 .o 10 (.aE 3 [.i 0,.i 0,.i 0]) [],.m 9 (.t 53),.n (.ag 3 3) [.t 10,.t 54],
 .m 11 (.t 55)] [0,3,49,50,51,53,54,55]) (.seq (.g [.o 56 (.aj 3 true 3 false) [.t 10],.m 57 (.t 9),.m 58 (.t 11),
 .n (.ag 1 3) [.t 4,.t 56],.m 5 (.t 57),.m 6 (.t 58)] [9,10,11,56,57,58]) .ret)) [] (.seq (.g [
 .o 60 (.bin .eql) [.t 20,.i 5],.m 59 (.t 60)] [60]) (.cond (.T 59) [20] (.seq (.g [.m 61 (.t 0),
 .o 62 (.aj 0 true 11 false) [.t 3],.c 63 148 [.t 61,.T 62],.o 64 (.extract 0) [.t 63],.o 65 (.extract 1) [.t 63],.o 66 (.extract 2) [.T 63],
 .n (.ag 1 3) [.t 4,.t 64],.m 5 (.t 65),.m 6 (.t 66)] [0,3,61,64,65,66]) .ret) [] (.seq (.g [
 .o 68 (.bin .eql) [.t 20,.i 6],.m 67 (.t 68)] [68]) (.cond (.T 67) [0,20] (.seq (.g [.f 69 5 (.t 3),
 .l 70 0 (.t 69),.o 71 (.indexAddr 11) [.T 70,.i 0],.f 72 7 (.T 71),.o 73 (.load true 3 false) [.T 72],
 .o 12 (.aE 4 [.i 0,.i 0,.i 0]) [],.n (.ag 4 3) [.t 12,.t 73]] [69,73]) (.seq (.r [.f 74 2 (.t 12),
 .l 75 4 (.t 74),.o 76 (.bin .gtr) [.t 75,.i 0],.m 77 (.t 76),.y 78 (.fieldAddr 5) [.t 3] 77,
 .y 79 (.aj 0 false 1 false) [.t 78] 77,.y 80 (.indexAddr 11) [.T 79,.i 1] 77,.y 81 (.fieldAddr 7) [.T 80] 77,
 .y 82 (.load true 3 false) [.T 81] 77,.y 83 (.call 142) [] 77,.y 84 (.eqv (.flat [.int,.int,.int]) false) [.t 82,.t 83] 77,
 .o 85 .pick [.t 77,.t 84,.b false],.m 13 (.t 85)] (some []) [3,74,75,76,77,78,79,80,81,82,83,84,85]) (.seq (.g [
 .f 86 2 (.t 12),.l 87 4 (.t 86),.o 88 (.bin .sub) [.t 87,.i 1],.f 89 2 (.t 12),
 .n (.ag 4 1) [.t 89,.t 88]] [86,87,88,89]) (.seq (.g [.o 90 (.aj 4 true 3 false) [.t 12],.m 91 (.t 13),
 .n (.ag 1 3) [.t 4,.t 90],.m 5 (.i 0),.m 6 (.t 91)] [12,13,90,91]) .ret)))) [] (.seq (.g [
 .o 93 (.bin .eql) [.t 20,.i 7],.m 92 (.t 93)] [93]) (.cond (.T 92) [20] (.seq (.g [.m 94 (.t 0),
 .o 95 (.aj 0 true 11 false) [.t 3],.c 96 149 [.t 94,.T 95],.o 97 (.extract 0) [.t 96],.o 98 (.extract 1) [.t 96],.o 99 (.extract 2) [.T 96],
 .n (.ag 1 3) [.t 4,.t 97],.m 5 (.t 98),.m 6 (.t 99)] [0,3,94,97,98,99]) .ret) [] (.seq (.g [
 .o 101 (.bin .eql) [.t 20,.i 8],.m 100 (.t 101)] [101]) (.cond (.T 100) [20] (.seq (.r [.m 103 (.t 0),
 .o 104 .nilCheck [.t 103],.f 105 4 (.T 104),.d 106 (.T 105),.f 107 3 (.t 3),
 .o 108 (.aj 0 true 2 false) [.t 107],.c 109 118 [.T 106,.t 108],.m 102 (.T 109),.o 110 (.extract 0) [.t 102],
 .o 111 (.extract 1) [.t 102],.o 14 (.aE 5 [.i 0,.i 0,.i 0]) [],.n (.ag 5 3) [.t 14,.t 110],
 .m 15 (.t 111)] (some []) [0,3,102,103,107,108,110,111]) (.seq (.r [.o 112 (.aj 5 true 3 false) [.t 14],.m 113 (.t 15),
 .m 114 (.t 113),.y 115 (.fieldAddr 0) [.t 14] 114,.y 116 (.aj 5 false 1 false) [.t 115] 114,.y 117 (.bin .eql) [.t 116,.i 3] 114,
 .o 118 .pick [.t 114,.t 117,.b false],.m 119 (.t 118),.y 120 (.fieldAddr 2) [.t 14] 119,.y 121 (.aj 5 false 1 false) [.t 120] 119,
 .y 122 (.bin .eql) [.t 121,.i 0] 119,.o 123 .pick [.t 119,.t 122,.b false],.n (.ag 1 3) [.t 4,.t 112],
 .m 5 (.i 0),.m 6 (.t 123)] (some []) [14,15,112,113,114,115,116,117,118,119,120,121,122,123]) .ret)) [] (.seq (.g [
 .o 125 (.bin .eql) [.t 20,.i 9],.m 124 (.t 125)] [125]) (.cond (.T 124) [20] (.seq (.r [.m 127 (.t 0),
 .o 128 .nilCheck [.t 127],.f 129 4 (.T 128),.d 130 (.T 129),.f 131 3 (.t 3),
 .o 132 (.aj 0 true 2 false) [.t 131],.c 133 118 [.T 130,.t 132],.m 126 (.T 133),.o 134 (.extract 0) [.t 126],
 .o 135 (.extract 1) [.t 126],.o 16 (.aE 6 [.i 0,.i 0,.i 0]) [],.n (.ag 6 3) [.t 16,.t 134],
 .m 17 (.t 135)] (some []) [0,126,127,131,132,134,135]) (.seq (.r [.m 136 (.t 17),.m 137 (.t 136),.y 138 (.fieldAddr 2) [.t 16] 137,
 .y 139 (.aj 6 false 1 false) [.t 138] 137,.y 140 (.bin .lss) [.t 139,.i 3] 137,.o 141 .pick [.t 137,.t 140,.b false],
 .m 142 (.t 141),.y 143 (.fieldAddr 5) [.t 3] 142,.y 144 (.aj 0 false 1 false) [.t 143] 142,
 .y 145 (.indexAddr 11) [.T 144,.i 0] 142,.y 146 (.fieldAddr 7) [.T 145] 142,.y 147 (.load true 3 false) [.T 146] 142,
 .y 148 (.call 142) [] 142,.y 149 (.eqv (.flat [.int,.int,.int]) false) [.t 147,.t 148] 142,.o 150 .pick [.t 142,.t 149,.b false],
 .m 17 (.t 150)] (some []) [3,136,137,138,139,140,141,142,143,144,145,146,147,148,149,150]) (.seq (.g [.f 151 2 (.t 16),
 .l 152 6 (.t 151),.o 153 (.bin .add) [.t 152,.i 1],.f 154 2 (.t 16),
 .n (.ag 6 1) [.t 154,.t 153]] [151,152,153,154]) (.seq (.g [.o 155 (.aj 6 true 3 false) [.t 16],.m 156 (.t 17),
 .n (.ag 1 3) [.t 4,.t 155],.m 5 (.i 0),.m 6 (.t 156)] [16,17,155,156]) .ret)))) [] (.seq (.g [
 .o 158 (.bin .eql) [.t 20,.i 10],.m 157 (.t 158)] [158]) (.cond (.T 157) [0,20] (.seq (.r [.c 159 142 [],
 .f 160 5 (.t 3),.l 161 0 (.t 160),.o 162 (.indexAddr 11) [.T 161,.i 0],.f 163 7 (.T 162),
 .f 164 2 (.T 163),.d 165 (.T 164),.o 166 (.bin .gtr) [.t 165,.i 0],.n (.ag 1 3) [.t 4,.t 159],
 .m 5 (.i 0),.m 6 (.t 166)] (some []) [3,159,160,165,166]) .ret) [] (.seq (.seq (.g [
 .o 168 (.bin .eql) [.t 20,.i 12],.m 167 (.t 168)] [168]) (.cond (.t 167) [20] .skip [167] (.g [
 .o 169 (.bin .eql) [.t 20,.i 13],.m 167 (.t 169)] [20,169]))) (.cond (.T 167) [0] (.seq (.g [.c 170 142 [],
 .o 18 (.aE 7 [.i 0,.i 0,.i 0]) [],.n (.ag 7 3) [.t 18,.t 170]] [170]) (.seq (.seq (.g [.f 171 0 (.t 3),
 .l 172 0 (.t 171),.o 173 (.bin .eql) [.t 172,.i 13]] [171,172]) (.cond (.T 173) [] (.g [
 .c 174 141 [],.n (.ag 7 3) [.t 18,.t 174]] [174]) [] .skip)) (.seq (.r [.o 175 (.aj 7 true 3 false) [.t 18],
 .f 176 5 (.t 3),.l 177 0 (.t 176),.o 178 (.indexAddr 11) [.T 177,.i 0],.f 179 7 (.T 178),
 .o 180 (.load true 3 false) [.T 179],.o 181 (.aj 7 true 3 false) [.t 18],.o 182 (.eqv (.flat [.int,.int,.int]) false) [.t 180,.t 181],
 .n (.ag 1 3) [.t 4,.t 175],.m 5 (.i 0),.m 6 (.t 182)] (some []) [3,18,175,176,180,181,182]) .ret))) []
 .skip)))))))))))))))))))))))) (.seq (.g [.m 183 (.t 0),.o 184 (.aj 0 true 11 false) [.t 3],.c 185 150 [.t 183,.T 184],
 .o 186 (.extract 0) [.t 185],.o 187 (.extract 1) [.t 185],.o 188 (.extract 2) [.T 185],.n (.ag 1 3) [.t 4,.t 186],.m 5 (.t 187),
 .m 6 (.t 188)] [0,3,183,186,187,188]) .ret))) }
def Hq:aC:={ eL:=138,mode:=.lS,nparams:=2,aJ:=3,dc:=[],results:=[.box 4 1 11 true],body:=
 (.seq (.g [.o 3 (.dW 0 11) [.T 1],
 .o 4 (.aE 1 [.i 0,.i 0,.str [],.str [],.i 0,.U,.i 0,.i 0,.i 0,.i 0,.i 0]) []] []) (.seq
 (.g [.m 6 (.t 0),.o 7 (.aj 0 true 11 false) [.t 3],.c 8 122 [.t 6,.T 7],
 .o 5 (.aE 2 [.i 0,.i 0,.str [],.str [],.i 0,.U,.i 0,.i 0,.i 0,.i 0,.i 0]) [],
 .n (.ag 2 11) [.t 5,.T 8]] [3,6]) (.seq (.seq (.r [.f 9 7 (.t 5),.o 10 (.aj 2 true 3 false) [.t 9],.c 11 119 [],
 .o 12 (.eqv (.flat [.int,.int,.int]) false) [.t 10,.t 11]] (some []) [9,10,11]) (.cond (.T 12) [] (.g [.m 13 (.t 0),.f 14 6 (.t 5),
 .l 15 2 (.t 14),.c 16 121 [.t 13,.t 15]] [0,13,14,15,16]) [0] .skip)) (.seq (.g [
 .o 17 (.aj 2 true 11 false) [.t 5],.n (.ag 1 11) [.t 4,.T 17]] [5]) .ret)))) }
def Up:aC:={ eL:=139,mode:=.lS,nparams:=3,aJ:=1,dc:=[],results:=[.tmp 6 false,.tmp 7 false],body:=
 (.seq (.g [.o 5 (.dW 0 3) [.t 2],.m 6 (.i 0),.m 7 (.b false)] [2,6,7]) (.seq (.seq (.g [
 .m 8 (.t 0),.o 9 .nilCheck [.t 8],.f 10 11 (.T 9),.d 11 (.T 10),.m 12 (.t 1),
 .c 13 151 [.T 11,.t 12],.o 14 (.bin .geq) [.t 13,.i 0]] [8,12,13]) (.cond (.T 14) [0,1,5] (.seq (.g [
 .m 6 (.i 0),.m 7 (.b false)] []) .ret) [] .skip)) (.seq (.r [.m 15 (.t 0),.m 16 (.t 0),
 .o 17 .nilCheck [.t 16],.f 18 11 (.T 17),.o 19 (.load false 1 true) [.T 18],.m 20 (.t 1),.o 21 (.aj 0 true 3 false) [.t 5],
 .o 22 (.build [.str [],.i 0,.i 0,.i 0] [(0,1),(1,3)]) [.t 20,.t 21],
 .o 23 (.lit 4 1 [.str [],.i 0,.i 0,.i 0] [0]) [.t 22],.o 24 (.append 4 40) [.T 19,.T 23],.o 25 .nilCheck [.t 15],
 .f 26 11 (.T 25),.n (.store 1) [.T 26,.T 24]] (some []) [1,5,15,16,20,21,22]) (.seq (.g [.m 27 (.t 0),.o 28 .nilCheck [.t 27],
 .f 29 11 (.T 28),.d 30 (.T 29),.o 31 (.len .sl) [.T 30],.o 32 (.bin .sub) [.t 31,.i 1],
 .m 6 (.t 32),.m 7 (.b true)] [0,27,31,32]) .ret)))) }
def Qf:aC:={ eL:=140,mode:=.lS,nparams:=2,aJ:=1,dc:=[],results:=[.tmp 4 false,.box 5 0 3 true,.tmp 6 false],body:=
 (.seq (.g [.m 4 (.i 0),.o 5 (.aE 0 [.i 0,.i 0,.i 0]) [],.m 6 (.b false)] [4,6])
 (.seq (.seq (.g [.m 9 (.t 0),.o 10 .nilCheck [.t 9],.f 11 11 (.T 10),.d 12 (.T 11),.m 13 (.t 1),
 .c 14 151 [.T 12,.t 13],.m 7 (.t 14)] [9,13,14]) (.seq (.g [.m 15 (.t 7),
 .o 16 (.bin .geq) [.t 15,.i 0]] [15]) (.cond (.T 16) [1] (.seq (.r [.m 17 (.t 7),.m 18 (.t 0),
 .o 19 .nilCheck [.t 18],.f 20 11 (.T 19),.d 21 (.T 20),.m 22 (.t 7),.o 23 (.indexAddr 4) [.T 21,.t 22],
 .f 24 1 (.T 23),.o 25 (.load true 3 false) [.T 24],.m 4 (.t 17),.n (.ag 0 3) [.t 5,.t 25],
 .m 6 (.b true)] (some []) [0,7,17,18,22,25]) .ret) [7] .skip))) (.seq (.seq (.g [.m 26 (.t 0),.o 27 .nilCheck [.t 26],
 .f 28 0 (.T 27),.f 29 1 (.T 28),.d 30 (.T 29),.m 31 (.t 1),.c 32 151 [.T 30,.t 31],
 .m 8 (.t 32)] [1,26,31,32]) (.seq (.g [.m 33 (.t 8),.o 34 (.bin .geq) [.t 33,.i 0]] [33]) (.cond (.T 34) [] (.seq
 (.r [.m 35 (.t 8),.o 36 (.bin .sub) [.const (.i (-1)),.t 35],.m 37 (.t 0),.o 38 .nilCheck [.t 37],.f 39 0 (.T 38),
 .f 40 1 (.T 39),.d 41 (.T 40),.m 42 (.t 8),.o 43 (.indexAddr 4) [.T 41,.t 42],.f 44 1 (.T 43),
 .o 45 (.load true 3 false) [.T 44],.m 4 (.t 36),.n (.ag 0 3) [.t 5,.t 45],.m 6 (.b true)] (some []) [0,8,35,36,37,42,45])
 .ret) [0,8] .skip))) (.seq (.g [.c 46 119 [],.m 4 (.i 0),.n (.ag 0 3) [.t 5,.t 46],
 .m 6 (.b false)] [46]) .ret)))) }
def Yd:aC:={ eL:=141,mode:=.pure,nparams:=0,aJ:=1,dc:=[],results:=[.box 0 0 3 true],body:=
 (.seq (.g [.o 0 (.aE 0 [.i 0,.i 0,.i 0]) []] []) (.seq (.g [
 .o 1 (.build [.i 0,.i 0,.i 0] [(0,1)]) [.i 2],.n (.ag 0 3) [.t 0,.t 1]] [1]) .ret)) }
def Ye:aC:={ eL:=142,mode:=.pure,nparams:=0,aJ:=1,dc:=[],results:=[.box 0 0 3 true],body:=
 (.seq (.g [.o 0 (.aE 0 [.i 0,.i 0,.i 0]) []] []) (.seq (.g [
 .o 1 (.build [.i 0,.i 0,.i 0] [(0,1)]) [.i 1],.n (.ag 0 3) [.t 0,.t 1]] [1]) .ret)) }
def Yf:aC:={ eL:=143,mode:=.lS,nparams:=2,aJ:=1,dc:=[],results:=[.tmp 4 false],body:=
 (.seq (.g [.o 3 (.dW 0 3) [.t 1],.m 4 (.i 0)] [1,4]) (.seq (.r [.m 5 (.t 0),.m 6 (.t 0),
 .o 7 .nilCheck [.t 6],.f 8 0 (.T 7),.f 9 3 (.T 8),.o 10 (.load false 1 true) [.T 9],.m 11 (.t 0),.o 12 .nilCheck [.t 11],
 .f 13 0 (.T 12),.f 14 2 (.T 13),.d 15 (.T 14),.o 16 (.len .sl) [.T 15],
 .o 17 (.aj 0 true 3 false) [.t 3],.o 18 (.build [.i 0,.i 0,.i 0,.i 0] [(0,1),(1,3)]) [.t 16,.t 17],
 .o 19 (.lit 4 1 [.i 0,.i 0,.i 0,.i 0] [0]) [.t 18],.o 20 (.append 4 32) [.T 10,.T 19],.o 21 .nilCheck [.t 5],
 .f 22 0 (.T 21),.f 23 3 (.T 22),.n (.store 1) [.T 23,.T 20]] (some [(10,5),(11,5)]) [3,5,6,11,16,17,18]) (.seq (.g [
 .m 24 (.t 0),.o 25 .nilCheck [.t 24],.f 26 0 (.T 25),.f 27 3 (.T 26),.d 28 (.T 27),
 .o 29 (.len .sl) [.T 28],.o 30 (.bin .sub) [.t 29,.i 1],.m 4 (.t 30)] [0,24,29,30]) .ret))) }
def Uq:aC:={ eL:=145,mode:=.lS,nparams:=2,aJ:=2,dc:=[],results:=[.box 4 0 11 true],body:=
 (.seq (.g [
 .o 4 (.aE 0 [.i 0,.i 0,.str [],.str [],.i 0,.U,.i 0,.i 0,.i 0,.i 0,.i 0]) []] []) (.seq
 (.seq (.g [.m 6 (.t 0),.c 7 14 [.t 6,.const (.str [91])],.o 8 (.un .not) [.t 7]] [6,7]) (.cond (.T 8) [] (.seq (.g [
 .m 9 (.t 0),.c 10 38 [.t 9],.o 11 (.build [.str [],.i 0] [(0,1)]) [.t 10],.m 12 (.t 1),
 .o 13 (.build [.i 0,.i 0,.str [],.str [],.i 0,.U,.i 0,.i 0,.i 0,.i 0,.i 0] [(0,1),(3,2),(6,1)]) [.i 8,.t 11,.t 12],
 .n (.ag 0 11) [.t 4,.T 13]] [0,1,9,10,11,12]) .ret) [] .skip)) (.seq (.g [.m 14 (.t 0),.o 15 .nilCheck [.t 14],
 .f 16 1 (.T 15),.d 17 (.T 16),.o 18 (.bin .add) [.t 17,.i 1],.o 19 .nilCheck [.t 14],
 .f 20 1 (.T 19),.n (.store 1) [.T 20,.t 18]] [14,17,18]) (.seq (.g [.m 21 (.t 0),.c 22 39 [.t 21],
 .o 5 (.aE 1 [.str [],.i 0]) [],.n (.ag 1 2) [.t 5,.t 22]] [21,22]) (.seq (.g [.m 23 (.t 0),
 .c 24 18 [.t 23,.const (.str [93])]] [23,24]) (.seq (.r [.o 25 (.aj 1 true 2 false) [.t 5],.m 26 (.t 0),
 .c 27 146 [.t 26],
 .o 28 (.lit 11 1 [.i 0,.i 0,.str [],.str [],.i 0,.U,.i 0,.i 0,.i 0,.i 0,.i 0] [0]) [.T 27],
 .m 29 (.t 1),
 .o 30 (.build [.i 0,.i 0,.str [],.str [],.i 0,.U,.i 0,.i 0,.i 0,.i 0,.i 0] [(0,1),(3,2),(5,1),(6,1)]) [.i 9,.t 25,.T 28,.t 29],
 .n (.ag 0 11) [.t 4,.T 30]] (some []) [0,1,5,25,26,29]) .ret)))))) }
def Yg:aC:={ eL:=146,mode:=.lS,nparams:=1,aJ:=2,dc:=[],results:=[.box 2 0 11 true],body:=
 (.seq (.g [
 .o 2 (.aE 0 [.i 0,.i 0,.str [],.str [],.i 0,.U,.i 0,.i 0,.i 0,.i 0,.i 0]) []] []) (.seq
 (.g [.m 4 (.t 0),.c 5 73 [.t 4,.const (.str [40])]] [4,5]) (.seq (.g [.m 6 (.t 0),
 .c 7 96 [.t 6,.i 0],
 .o 3 (.aE 1 [.i 0,.i 0,.str [],.str [],.i 0,.U,.i 0,.i 0,.i 0,.i 0,.i 0]) [],
 .n (.ag 1 11) [.t 3,.T 7]] [6]) (.seq (.g [.m 8 (.t 0),.c 9 75 [.t 8,.const (.str [41])]] [0,8,9]) (.seq (.g [
 .o 10 (.aj 1 true 11 false) [.t 3],.n (.ag 0 11) [.t 2,.T 10]] [3]) .ret))))) }
def KT:bG:=
 (.seq (.seq (.g [.m 15 (.t 0),.c 16 14 [.t 15,.const (.str [44])]] [15]) (.cond (.T 16) [] .skip [] (.exit 0))) (.block 1 (.seq
 (.g [.m 17 (.t 0),.o 18 .nilCheck [.t 17],.f 19 1 (.T 18),.d 20 (.T 19),
 .o 21 (.bin .add) [.t 20,.i 1],.o 22 .nilCheck [.t 17],.f 23 1 (.T 22),.n (.store 1) [.T 23,.t 21]] [17,20,21])
 (.g [.m 24 (.T 3),.m 25 (.t 0),.c 26 96 [.t 25,.i 0],
 .o 27 (.lit 11 1 [.i 0,.i 0,.str [],.str [],.i 0,.U,.i 0,.i 0,.i 0,.i 0,.i 0] [0]) [.T 26],
 .o 28 (.append 11 120) [.T 24,.T 27],.m 3 (.T 28)] [25]))))
def Ur:aC:={ eL:=147,mode:=.lS,nparams:=1,aJ:=0,dc:=[],results:=[.tmp 2 true],body:=
 (.seq (.g [.o 2 .move [.const .U]] [2]) (.seq (.g [.o 3 .move [.const .U]] []) (.seq (.g [.m 4 (.t 0),
 .c 5 73 [.t 4,.const (.str [40])]] [4,5]) (.seq (.seq (.g [.m 6 (.t 0),.c 7 14 [.t 6,.const (.str [41])]] [6])
 (.cond (.T 7) [3] (.seq (.g [.m 8 (.t 0),.c 9 75 [.t 8,.const (.str [41])]] [0,8,9]) (.seq (.g [
 .o 2 .move [.const .U]] []) .ret)) [] .skip)) (.seq (.g [.m 10 (.T 3),.m 11 (.t 0),.c 12 96 [.t 11,.i 0],
 .o 13 (.lit 11 1 [.i 0,.i 0,.str [],.str [],.i 0,.U,.i 0,.i 0,.i 0,.i 0,.i 0] [0]) [.T 12],
 .o 14 (.append 11 120) [.T 10,.T 13],.m 3 (.T 14)] [11]) (.seq (.block 0 (.loop KT)) (.seq (.g [.m 29 (.t 0),
 .c 30 75 [.t 29,.const (.str [41])]] [0,29,30]) (.seq (.g [.m 31 (.T 3),.m 2 (.T 31)] []) .ret)))))))) }
def Mw:aC:={ eL:=148,mode:=.lS,nparams:=2,aJ:=3,dc:=[],results:=[.box 4 1 3 true,.tmp 5 false,.tmp 6 false],body:=
 (.seq (.g [.o 3 (.dW 0 11) [.T 1],.o 4 (.aE 1 [.i 0,.i 0,.i 0]) [],.m 5 (.i 0),
 .m 6 (.b false)] [5,6]) (.seq (.g [.f 10 5 (.t 3),.l 11 0 (.t 10),
 .o 12 (.indexAddr 11) [.T 11,.i 0],.f 13 7 (.T 12),.o 14 (.load true 3 false) [.T 13],
 .o 7 (.aE 2 [.i 0,.i 0,.i 0]) [],.n (.ag 2 3) [.t 7,.t 14]] [10,14]) (.seq (.seq (.g [.f 15 0 (.t 7),
 .l 16 2 (.t 15),.o 17 (.bin .neq) [.t 16,.i 3],.m 18 (.t 17),.z 19 (.fieldAddr 2) [.t 7] 18,
 .z 20 (.aj 2 false 1 false) [.t 19] 18,.z 21 (.bin .neq) [.t 20,.i 0] 18,
 .o 22 .pick [.t 18,.b true,.t 21]] [15,16,17,18,19,20,21]) (.cond (.T 22) [0,3,7] (.seq (.g [.c 23 119 [],
 .n (.ag 1 3) [.t 4,.t 23],.m 5 (.i 0),.m 6 (.b false)] [23]) .ret) [] .skip)) (.seq (.r [
 .m 24 (.t 0),.o 25 .nilCheck [.t 24],.f 26 0 (.T 25),.f 27 0 (.T 26),.d 28 (.T 27),
 .f 29 1 (.t 7),.l 30 2 (.t 29),.o 31 (.indexAddr 2) [.T 28,.t 30],.f 32 1 (.T 31),
 .d 33 (.T 32),.m 8 (.T 33)] (some []) [0,7,24,29,30]) (.seq (.g [.m 34 (.t 8),.f 35 2 (.t 3),
 .l 36 0 (.t 35),.c 37 151 [.T 34,.t 36],.m 9 (.t 37)] [3,35,36,37]) (.seq (.seq (.g [.m 38 (.t 9),
 .o 39 (.bin .lss) [.t 38,.i 0]] [38]) (.cond (.T 39) [8,9] (.seq (.g [.c 40 119 [],.n (.ag 1 3) [.t 4,.t 40],
 .m 5 (.i 0),.m 6 (.b false)] [40]) .ret) [] .skip)) (.seq (.g [.m 41 (.T 8),.m 42 (.t 9),
 .o 43 (.indexAddr 4) [.T 41,.t 42],.f 44 1 (.T 43),.o 45 (.load true 3 false) [.T 44],.m 46 (.t 9),.n (.ag 1 3) [.t 4,.t 45],
 .m 5 (.t 46),.m 6 (.b true)] [9,42,45,46]) .ret))))))) }
def KU:bG:=
 (.seq (.g [.o 47 (.bin .lss) [.t 46,.t 45]] []) (.seq (.cond (.T 47) [] .skip [3,44,45,46] (.exit 0)) (.seq (.block 1 (.seq (.g [
 .m 48 (.t 46),.o 49 (.indexAddr 4) [.t 44,.t 46],.o 50 (.load true 4 false) [.T 49],
 .o 9 (.aE 1 [.str [],.i 0,.i 0,.i 0]) [],.m 8 (.t 48),.n (.ag 1 4) [.t 9,.t 50]] [48,50]) (.seq (.r [
 .f 51 5 (.t 3),.d 52 (.T 51),.m 53 (.t 8),.o 54 (.indexAddr 11) [.T 52,.t 53],.f 55 7 (.T 54),
 .o 56 (.load true 3 false) [.T 55],.f 57 1 (.t 9),.o 58 (.aj 1 true 3 false) [.t 57],
 .o 59 (.eqv (.flat [.int,.int,.int]) true) [.t 56,.t 58]] (some []) [8,9,53,56,57,58]) (.cond (.T 59) [0,3,7,44,45,46] (.seq (.g [.c 60 119 [],
 .n (.ag 0 3) [.t 4,.t 60],.m 5 (.i 0),.m 6 (.b false)] [60]) .ret) [] .skip)))) (.g [
 .o 61 (.bin .add) [.t 46,.i 1],.m 46 (.t 61)] [61]))))
def Qg:aC:={ eL:=149,mode:=.lS,nparams:=2,aJ:=2,dc:=[],results:=[.box 4 0 3 true,.tmp 5 false,.tmp 6 false],body:=
 (.seq (.g [.o 3 (.box 11) [.T 1],.o 4 (.aE 0 [.i 0,.i 0,.i 0]) [],.m 5 (.i 0),
 .m 6 (.b false)] [5,6]) (.seq (.g [.m 10 (.t 0),.o 11 .nilCheck [.t 10],.f 12 0 (.T 11),
 .f 13 2 (.T 12),.d 14 (.T 13),.o 15 (.makeFunc 152 0) [.t 3],.c 16 79 [.T 14,.t 15],
 .m 7 (.t 16)] [10,15,16]) (.seq (.seq (.r [.m 17 (.t 7),.o 18 (.bin .lss) [.t 17,.i 0],.m 19 (.t 18),
 .z 20 .move [.t 0] 19,.z 21 .nilCheck [.t 20] 19,.z 22 (.fieldAddr 0) [.T 21] 19,.z 23 (.fieldAddr 2) [.T 22] 19,.z 24 (.load false 1 false) [.T 23] 19,
 .z 25 .move [.t 7] 19,.z 26 (.indexAddr 6) [.T 24,.t 25] 19,.z 27 (.fieldAddr 1) [.T 26] 19,.z 28 (.load false 1 false) [.T 27] 19,
 .z 29 (.len .sl) [.T 28] 19,.z 30 (.fieldAddr 5) [.t 3] 19,.z 31 (.load false 1 false) [.T 30] 19,.z 32 (.len .sl) [.T 31] 19,
 .z 33 (.bin .neq) [.t 29,.t 32] 19,.o 34 .pick [.t 19,.b true,.t 33]] (some []) [17,18,19,20,21,22,23,24,25,26,27,28,29,30,31,32,33])
 (.cond (.T 34) [0,3,7] (.seq (.g [.c 35 119 [],.n (.ag 0 3) [.t 4,.t 35],.m 5 (.i 0),
 .m 6 (.b false)] [35]) .ret) [] .skip)) (.seq (.seq (.g [.m 36 (.t 0),.o 37 .nilCheck [.t 36],
 .f 38 0 (.T 37),.f 39 2 (.T 38),.d 40 (.T 39),.m 41 (.t 7),.o 42 (.indexAddr 6) [.T 40,.t 41],
 .f 43 1 (.T 42),.d 44 (.T 43),.o 45 (.len .sl) [.t 44],.m 46 (.i 0)] [36,41]) (.block 0
 (.loop KU))) (.seq (.g [.m 62 (.t 0),.o 63 .nilCheck [.t 62],.f 64 0 (.T 63),.f 65 2 (.T 64),
 .d 66 (.T 65),.m 67 (.t 7),.o 68 (.indexAddr 6) [.T 66,.t 67],.f 69 3 (.T 68),.o 70 (.load true 3 false) [.T 69],
 .m 71 (.t 7),.n (.ag 0 3) [.t 4,.t 70],.m 5 (.t 71),.m 6 (.b true)] [0,7,62,67,70,71]) .ret))))) }
def zR:aC:={ eL:=150,mode:=.lS,nparams:=2,aJ:=4,dc:=[0],results:=[.box 4 1 3 true,.tmp 5 false,.tmp 6 false],body:=
 (.seq (.g [.o 3 (.dW 0 11) [.T 1],.o 4 (.aE 1 [.i 0,.i 0,.i 0]) [],.m 5 (.i 0),
 .m 6 (.b false)] [5,6]) (.seq (.r [.f 9 5 (.t 3),.l 10 0 (.t 9),
 .o 11 (.indexAddr 11) [.T 10,.i 0],.f 12 7 (.T 11),.o 13 (.load true 3 false) [.T 12],.f 14 5 (.t 3),
 .l 15 0 (.t 14),.o 16 (.indexAddr 11) [.T 15,.i 1],.f 17 7 (.T 16),.o 18 (.load true 3 false) [.T 17],
 .o 7 (.aE 2 [.i 0,.i 0,.i 0]) [],.o 8 (.aE 3 [.i 0,.i 0,.i 0]) [],.n (.ag 2 3) [.t 7,.t 13],
 .n (.ag 3 3) [.t 8,.t 18]] (some []) [9,13,14,18]) (.seq (.seq (.g [.f 19 0 (.t 3),
 .l 20 0 (.t 19)] [3,19]) (.block 0 (.seq (.seq (.g [.o 22 (.bin .eql) [.t 20,.i 14],
 .m 21 (.t 22)] [22]) (.cond (.t 21) [] .skip [21] (.seq (.g [.o 23 (.bin .eql) [.t 20,.i 15],.m 21 (.t 23)] [23])
 (.cond (.t 21) [] .skip [21] (.seq (.g [.o 24 (.bin .eql) [.t 20,.i 16],.m 21 (.t 24)] [24]) (.cond (.t 21) [] .skip [21]
 (.seq (.g [.o 25 (.bin .eql) [.t 20,.i 17],.m 21 (.t 25)] [25]) (.cond (.t 21) [] .skip [21] (.g [
 .o 26 (.bin .eql) [.t 20,.i 18],.m 21 (.t 26)] [26]))))))))) (.cond (.T 21) [20] (.seq (.r [.c 27 142 [],
 .o 28 (.aj 2 true 3 false) [.t 7],.c 29 142 [],.o 30 (.eqv (.flat [.int,.int,.int]) false) [.t 28,.t 29],.m 31 (.t 30),
 .y 32 (.aj 3 true 3 false) [.t 8] 31,.y 33 (.call 142) [] 31,.y 34 (.eqv (.flat [.int,.int,.int]) false) [.t 32,.t 33] 31,
 .o 35 .pick [.t 31,.t 34,.b false],.n (.ag 1 3) [.t 4,.t 27],.m 5 (.i 0),
 .m 6 (.t 35)] (some []) [7,8,27,28,29,30,31,32,33,34,35]) .ret) [] (.seq (.seq (.g [.o 37 (.bin .eql) [.t 20,.i 19],
 .m 36 (.t 37)] [37]) (.cond (.t 36) [] .skip [36] (.g [.o 38 (.bin .eql) [.t 20,.i 20],.m 36 (.t 38)] [38])))
 (.cond (.T 36) [20] (.seq (.r [.c 39 141 [],.o 40 (.aj 2 true 3 false) [.t 7],.c 41 142 [],
 .o 42 (.eqv (.flat [.int,.int,.int]) false) [.t 40,.t 41],.m 43 (.t 42),.y 44 (.aj 3 true 3 false) [.t 8] 43,.y 45 (.call 142) [] 43,
 .y 46 (.eqv (.flat [.int,.int,.int]) false) [.t 44,.t 45] 43,.o 47 .pick [.t 43,.t 46,.b false],.n (.ag 1 3) [.t 4,.t 39],
 .m 5 (.i 0),.m 6 (.t 47)] (some []) [7,8,39,40,41,42,43,44,45,46,47]) .ret) [] (.seq (.seq (.g [
 .o 49 (.bin .eql) [.t 20,.i 21],.m 48 (.t 49)] [49]) (.cond (.t 48) [20] .skip [48] (.g [
 .o 50 (.bin .eql) [.t 20,.i 22],.m 48 (.t 50)] [20,50]))) (.cond (.T 48) [] (.seq (.r [.c 51 141 [],
 .o 52 (.aj 2 true 3 false) [.t 7],.o 53 (.aj 3 true 3 false) [.t 8],.o 54 (.eqv (.flat [.int,.int,.int]) false) [.t 52,.t 53],
 .n (.ag 1 3) [.t 4,.t 51],.m 5 (.i 0),.m 6 (.t 54)] (some []) [7,8,51,52,53,54]) .ret) [] .skip)))))))) (.seq (.r [
 .c 55 141 [],.o 56 (.aj 2 true 3 false) [.t 7],.c 57 141 [],.o 58 (.eqv (.flat [.int,.int,.int]) false) [.t 56,.t 57],
 .m 59 (.t 58),.y 60 (.aj 3 true 3 false) [.t 8] 59,.y 61 (.call 141) [] 59,.y 62 (.eqv (.flat [.int,.int,.int]) false) [.t 60,.t 61] 59,
 .o 63 .pick [.t 59,.t 62,.b false],.n (.ag 1 3) [.t 4,.t 55],.m 5 (.i 0),
 .m 6 (.t 63)] (some []) [7,8,55,56,57,58,59,60,61,62,63]) .ret)))) }
def Yh:aC:={ eL:=151,mode:=.pure,nparams:=2,aJ:=0,dc:=[],results:=[.tmp 4 false],body:=
 (.seq (.g [.o 3 (.box 1) [.t 1],.m 4 (.i 0)] [1,4]) (.seq (.g [.m 5 (.T 0),.o 6 (.makeFunc 154 0) [.T 3],
 .c 7 153 [.T 5,.t 6],.m 4 (.t 7)] [6,7]) .ret)) }
def Yi:aC:={ eL:=152,mode:=.lS,nparams:=2,aJ:=1,dc:=[],results:=[.tmp 3 false],body:=
 (.seq (.g [.o 2 (.dW 0 6) [.T 0],.m 3 (.b false)] [3]) (.seq (.g [.f 4 0 (.t 2),
 .l 5 0 (.t 4),.f 6 2 (.T 1),.d 7 (.T 6),.o 8 (.bin .eql) [.t 5,.t 7],
 .m 3 (.t 8)] [2,4,5,7,8]) .ret)) }
def KW:bG:=
 (.seq (.g [.o 9 (.bin .lss) [.t 8,.t 7]] []) (.seq (.cond (.T 9) [] .skip [0,1,7,8] (.exit 0)) (.seq (.block 1 (.seq (.g [.m 10 (.t 8),
 .m 5 (.t 10)] [10]) (.seq (.g [.m 11 (.t 1),.m 12 (.t 0),.m 13 (.t 5),.o 14 (.indexAddr 4) [.T 12,.t 13],
 .o 15 (.load true 4 false) [.T 14],.o 16 .oV [.t 11,.t 15]] [11,13,15]) (.cond (.T 16) [0,1,7,8] (.seq (.g [.m 17 (.t 5),
 .m 4 (.t 17)] [5,17]) .ret) [5] .skip)))) (.g [.o 18 (.bin .add) [.t 8,.i 1],.m 8 (.t 18)] [18]))))
def Yj:aC:={ eL:=153,mode:=.lS,nparams:=2,aJ:=0,dc:=[],results:=[.tmp 4 false],body:=
 (.seq (.g [.m 4 (.i 0)] [4]) (.seq (.seq (.g [.m 6 (.t 0),.o 7 (.len .sl) [.T 6],
 .m 8 (.i 0)] []) (.block 0 (.loop KW))) (.seq (.g [.o 4 .move [.const (.i (-1))]] []) .ret))) }
def Yk:aC:={ eL:=154,mode:=.lS,nparams:=2,aJ:=1,dc:=[],results:=[.tmp 3 false],body:=
 (.seq (.g [.o 2 (.dW 0 4) [.t 0],.m 3 (.b false)] [0,3]) (.seq (.g [.f 4 0 (.t 2),
 .l 5 0 (.t 4),.d 6 (.T 1),.o 7 (.bin .eql) [.t 5,.t 6],.m 3 (.t 7)] [2,4,5,6,7]) .ret)) }
def SG:List (Option aC):=[none,none,none,none,some s4,some s5,some s6,none,none,some s9,some Ui,some s11,some s12,some s13,some s14,some s15,some s16,some s17,some s18,some X2,some s20,some s21,some s22,some s23,none,none,none,none,none,none,none,none,some s32,some Uj,some s34,some k6,some s36,some Jw,some s38,some s39,some s40,some s41,some s42,some s43,some s44,some s45,some Sx,some s47,some s48,none,none,none,none,none,none,none,none,some pT,some s58,some s59,some s60,some tj,some Uk,some s63,some s64,some We,some X3,some s67,some s68,some X4,some s70,some s71,some s72,some s73,some P1,some s75,some s76,some s77,some s78,some s79,some s80,some s81,some s82,some Wf,some s84,some Hl,some ER,none,none,none,none,none,none,none,none,some s95,some s96,some Wg,some s98,some s99,some eF,some X5,some Ul,some Um,some X6,some X7,some Ho,none,none,none,none,none,none,none,none,some Qb,some Hp,some Qc,some wC,some X8,some mP,some Un,some ET,some Qd,some lK,some X9,some Ya,some Uo,some Qe,some Yb,none,none,none,some Yc,some pE,some qY,some BO,some jQ,some Hq,some Up,some Qf,some Yd,some Ye,some Yf,none,some Uq,some Yg,some Ur,some Mw,some Qg,some zR,some Yh,some Yi,some Yj,some Yk,none,none,none,none,none,none,none,none,none,none,none,none,none,none,none,none]
def Eg:List (Option aC):=[]
def S:Nat->Option aC:=NQ SG Eg
end aT
