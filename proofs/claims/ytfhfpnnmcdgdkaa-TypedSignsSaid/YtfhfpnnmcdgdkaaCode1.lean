/- The annotated code of the loaded program,printed by wip/tools/gen.py. -/
import Derived.Test.YtfhfpnnmcdgdkaaA6

set_option maxRecDepth 100000
namespace Code8z
open Ax Go

/-- runrig/runriglaw8.TypedAgain -/

def s3 : SFunc := { fid := 3,mode := .pure,nparams := 1,nboxes := 6,clr := [],results := [.tmp 2 false],body :=
 (.seq (.region [ .o 2 .move [.const (.bool false)]] none [2]) (.seq (.region [ .o 10 .move [.t 0], .o 11 (.call 6) [.t 10], .o 9 .move [.T 11],
 .o 12 (.extract 0) [.t 9], .o 13 (.extract 1) [.T 9], .o 3 (.allocF 0 [.nilSl,.nilSl,.nilSl]) [], .o 4 (.allocF 1 [.int .i64 0,.int .i64 0]) [],
 .n (.storeF 0 3) [.t 3,.T 12], .n (.storeF 1 2) [.t 4,.t 13]] none [10,13]) (.seq (.seq (.region [ .o 14 .move [.t 0], .o 15 (.len .str) [.t 14],
 .o 16 (.bin .gtr) [.t 15,.const (.int .i64 4000)], .o 17 .move [.t 16], .z 18 (.fieldAddr 0) [.t 4] 17, .z 19 (.loadF 1 false 1 false) [.t 18] 17,
 .z 20 (.bin .neq) [.t 19,.const (.int .i64 0)] 17, .o 21 .pick [.t 17,.const (.bool true),.t 20]] none [0,4,14,15,16,17,18,19,20]) (.cond (.T 21) [3] (.seq
 (.region [ .o 2 .move [.const (.bool true)]] none []) .ret) [] .skip)) (.seq (.region [ .o 23 (.loadF 0 true 3 false) [.t 3], .o 24 (.call 7) [.T 23],
 .o 22 .move [.T 24], .o 25 (.extract 0) [.t 22], .o 26 (.extract 1) [.T 22], .o 5 (.allocF 2 [.nilSl,.nilSl,.nilSl,.int .i64 0,.nilSl]) [],
 .o 6 (.allocF 3 [.int .i64 0,.int .i64 0]) [], .n (.storeF 2 5) [.t 5,.T 25], .n (.storeF 3 2) [.t 6,.t 26]] none [26]) (.seq (.seq (.region [
 .o 27 (.fieldAddr 0) [.t 6], .o 28 (.loadF 3 false 1 false) [.t 27], .o 29 (.bin .neq) [.t 28,.const (.int .i64 0)]] none [6,27,28]) (.cond (.T 29) [3] (.seq
 (.region [ .o 30 (.fieldAddr 4) [.t 5], .o 31 (.loadF 2 false 1 false) [.t 30], .o 32 (.len .sl) [.T 31], .o 33 (.bin .eql) [.t 32,.const (.int .i64 0)],
 .o 34 .move [.t 33], .y 35 (.call 8) [] 34, .o 36 .pick [.t 34,.t 35,.const (.bool false)], .o 2 .move [.t 36]] none [5,30,32,33,34,35,36]) .ret) [] .skip))
 (.seq (.seq (.region [ .o 37 (.fieldAddr 4) [.t 5], .o 38 (.loadF 2 false 1 false) [.t 37], .o 39 (.len .sl) [.T 38], .o 40 (.fieldAddr 2) [.t 3],
 .o 41 (.loadF 0 false 1 false) [.t 40], .o 42 (.len .sl) [.T 41], .o 43 (.bin .neq) [.t 39,.t 42]] none [37,39,40,42]) (.cond (.T 43) [3,5] (.seq (.region [
 .o 2 .move [.const (.bool false)]] none []) .ret) [] .skip)) (.seq (.region [ .o 45 (.loadF 0 true 3 false) [.t 3], .o 46 (.loadF 2 true 5 false) [.t 5],
 .o 47 (.call 9) [.T 45,.T 46], .o 48 (.call 7) [.T 47], .o 44 .move [.T 48], .o 49 (.extract 0) [.t 44], .o 50 (.extract 1) [.T 44],
 .o 7 (.allocF 4 [.nilSl,.nilSl,.nilSl,.int .i64 0,.nilSl]) [], .o 8 (.allocF 5 [.int .i64 0,.int .i64 0]) [], .n (.storeF 4 5) [.t 7,.T 49],
 .n (.storeF 5 2) [.t 8,.t 50]] none [3,50]) (.seq (.region [ .o 51 (.fieldAddr 0) [.t 8], .o 52 (.loadF 5 false 1 false) [.t 51],
 .o 53 (.bin .eql) [.t 52,.const (.int .i64 0)], .o 54 .move [.t 53], .y 55 (.loadF 2 true 5 false) [.t 5] 54, .y 56 (.loadF 4 true 5 false) [.t 7] 54,
 .y 57 (.call 10) [.T 55,.T 56] 54, .o 58 .pick [.t 54,.t 57,.const (.bool false)], .o 59 .move [.t 58], .y 60 (.call 8) [] 59,
 .o 61 .pick [.t 59,.t 60,.const (.bool false)], .o 2 .move [.t 61]] none [5,7,8,51,52,53,54,55,56,57,58,59,60,61]) .ret)))))))) }

/-- runrig/runriglaw8.TypedSigns -/
def s4_l0 : SCode :=
 (.seq (.seq (.region [ .o 77 .move [.t 11], .o 78 .move [.t 8], .o 79 (.len .sl) [.T 78], .o 80 (.bin .lss) [.t 77,.t 79]] none [77,79]) (.cond (.T 80) []
 .skip [0,1,2,7,8,9,10,11] (.exit 1))) (.seq (.block 2 (.seq (.region [ .o 83 .move [.t 8], .o 84 .move [.t 1], .o 85 (.indexAddr 1) [.T 83,.t 84],
 .o 86 (.load false 1 false) [.T 85],
 .o 87 (.bin .add) [.const (.str [114,101,99,111,114,100,32,82,32,123,32,125,32,102,117,110,99,32,102,40,97,58,32]),.t 86],
 .o 88 (.bin .add) [.t 87,.const (.str [44,32,98,58,32])], .o 89 .move [.t 8], .o 90 .move [.t 2], .o 91 (.indexAddr 1) [.T 89,.t 90],
 .o 92 (.load false 1 false) [.T 91], .o 93 (.bin .add) [.t 88,.t 92], .o 94 (.bin .add) [.t 93,.const (.str [41,32,123,32,108,101,116,32,120,58,32])],
 .o 95 .move [.t 8], .o 96 .move [.t 11], .o 97 (.indexAddr 1) [.T 95,.t 96], .o 98 (.load false 1 false) [.T 97], .o 99 (.bin .add) [.t 94,.t 98],
 .o 100 (.bin .add) [.t 99,.const (.str [32,61,32,97,32])], .o 101 .move [.t 7], .o 102 .move [.t 0], .o 103 (.indexAddr 1) [.T 101,.t 102],
 .o 104 (.load false 1 false) [.T 103], .o 105 (.bin .add) [.t 100,.t 104],
 .o 106 (.bin .add) [.t 105,.const (.str [32,98,59,32,125,32,102,117,110,99,32,109,97,105,110,40,41,32,123,32,125])],
 .o 12 .move [.t 106]] (some []) [84,86,87,88,90,92,93,94,96,98,99,100,102,104,105,106]) (.seq (.region [ .o 108 .move [.t 12], .o 109 (.call 6) [.t 108],
 .o 107 .move [.T 109], .o 110 (.extract 0) [.t 107], .o 111 (.extract 1) [.T 107], .o 13 (.allocF 0 [.nilSl,.nilSl,.nilSl]) [],
 .o 14 (.allocF 1 [.int .i64 0,.int .i64 0]) [], .n (.storeF 0 3) [.t 13,.T 110], .n (.storeF 1 2) [.t 14,.t 111]] none [12,14,108,111]) (.seq (.region [
 .o 113 (.loadF 0 true 3 false) [.t 13], .o 114 (.call 7) [.T 113], .o 112 .move [.T 114], .o 115 (.extract 0) [.t 112], .o 116 (.extract 1) [.T 112],
 .o 15 (.allocF 2 [.nilSl,.nilSl,.nilSl,.int .i64 0,.nilSl]) [], .o 16 (.allocF 3 [.int .i64 0,.int .i64 0]) [], .n (.storeF 2 5) [.t 15,.T 115],
 .n (.storeF 3 2) [.t 16,.t 116]] none [13,15,116]) (.seq (.region [ .o 117 (.fieldAddr 0) [.t 16], .o 118 (.loadF 3 false 1 false) [.t 117],
 .o 119 (.bin .eql) [.t 118,.const (.int .i64 0)], .o 120 .move [.t 10], .o 121 .move [.t 120], .y 122 .move [.t 8] 121, .y 123 .move [.t 11] 121,
 .y 124 (.indexAddr 1) [.T 122,.t 123] 121, .y 125 (.load false 1 false) [.T 124] 121, .y 126 .move [.t 9] 121, .y 127 (.bin .eql) [.t 125,.t 126] 121,
 .o 128 .pick [.t 121,.t 127,.const (.bool false)], .o 129 (.eqv (.sc .bool) true) [.t 119,.t 128], .o 130 .move [.t 129], .z 131 (.fieldAddr 0) [.t 16] 130,
 .z 132 (.loadF 3 false 1 false) [.t 131] 130, .z 133 (.bin .neq) [.t 132,.const (.int .i64 0)] 130, .z 134 .move [.t 133] 130,
 .y 135 (.fieldAddr 0) [.t 16] 134, .y 136 (.loadF 3 false 1 false) [.t 135] 134, .y 137 (.bin .neq) [.t 136,.const (.int .i64 3)] 134,
 .z 138 .pick [.t 134,.t 137,.const (.bool false)] 130,
 .o 139 .pick [.t 130,.const (.bool true),.t 138]] (some []) [16,117,118,119,120,121,122,123,124,125,126,127,128,129,130,131,132,133,134,135,136,137,138])
 (.cond (.T 139) [0,1,2,7,8,9,10,11] (.seq (.region [ .o 6 .move [.const (.bool false)]] none []) .ret) [] .skip)))))) (.region [ .o 81 .move [.t 11],
 .o 82 (.bin .add) [.t 81,.const (.int .i64 1)], .o 11 .move [.t 82]] none [81,82])))
def s4 : SFunc := { fid := 4,mode := .pure,nparams := 3,nboxes := 4,clr := [],results := [.tmp 6 false],body :=
 (.seq (.region [ .o 6 .move [.const (.bool false)]] none [6]) (.seq (.region [
 .o 17 (.lit 1 11 [.str []] [0,1,2,3,4,5,6,7,8,9,10]) [.const (.str [43]),.const (.str [45]),.const (.str [42]),.const (.str [47]),.const (.str [37]),.const (.str [60]),.const (.str [60,61]),.const (.str [61,61]),.const (.str [33,61]),.const (.str [38,38]),.const (.str [124,124])],
 .o 7 .move [.T 17]] none []) (.seq (.region [
 .o 18 (.lit 1 5 [.str []] [0,1,2,3,4]) [.const (.str [105,110,116]),.const (.str [98,111,111,108]),.const (.str [82]),.const (.str [91,105,110,116,93]),.const (.str [91,82,93])],
 .o 8 .move [.T 18]] none []) (.seq (.seq (.region [ .o 19 .move [.t 0], .o 20 (.bin .lss) [.t 19,.const (.int .i64 0)], .o 21 .move [.t 20],
 .z 22 .move [.t 0] 21, .z 23 .move [.t 7] 21, .z 24 (.len .sl) [.T 23] 21, .z 25 (.bin .geq) [.t 22,.t 24] 21, .o 26 .pick [.t 21,.const (.bool true),.t 25],
 .o 27 .move [.t 26], .z 28 .move [.t 1] 27, .z 29 (.bin .lss) [.t 28,.const (.int .i64 0)] 27, .o 30 .pick [.t 27,.const (.bool true),.t 29],
 .o 31 .move [.t 30], .z 32 .move [.t 1] 31, .z 33 .move [.t 8] 31, .z 34 (.len .sl) [.T 33] 31, .z 35 (.bin .geq) [.t 32,.t 34] 31,
 .o 36 .pick [.t 31,.const (.bool true),.t 35], .o 37 .move [.t 36], .z 38 .move [.t 2] 37, .z 39 (.bin .lss) [.t 38,.const (.int .i64 0)] 37,
 .o 40 .pick [.t 37,.const (.bool true),.t 39], .o 41 .move [.t 40], .z 42 .move [.t 2] 41, .z 43 .move [.t 8] 41, .z 44 (.len .sl) [.T 43] 41,
 .z 45 (.bin .geq) [.t 42,.t 44] 41,
 .o 46 .pick [.t 41,.const (.bool true),.t 45]] none [19,20,21,22,23,24,25,26,27,28,29,30,31,32,33,34,35,36,37,38,39,40,41,42,43,44,45])
 (.cond (.T 46) [0,1,2,7,8] (.seq (.region [ .o 6 .move [.const (.bool true)]] none []) .ret) [] .skip)) (.seq (.region [
 .o 9 .move [.const (.str [98,111,111,108])]] none []) (.seq (.region [ .o 47 .move [.t 1], .o 48 .move [.t 2], .o 49 (.bin .eql) [.t 47,.t 48],
 .o 10 .move [.t 49]] none [47,48,49]) (.seq (.block 0 (.seq (.region [ .o 51 .move [.t 0], .o 52 (.bin .lss) [.t 51,.const (.int .i64 5)],
 .o 50 .move [.t 52]] none [51,52]) (.cond (.T 50) [9,10] (.seq (.region [ .o 9 .move [.const (.str [105,110,116])]] none []) (.region [ .o 53 .move [.t 1],
 .o 54 (.bin .eql) [.t 53,.const (.int .i64 0)], .o 55 .move [.t 54], .y 56 .move [.t 2] 55, .y 57 (.bin .eql) [.t 56,.const (.int .i64 0)] 55,
 .o 58 .pick [.t 55,.t 57,.const (.bool false)], .o 10 .move [.t 58]] none [53,54,55,56,57,58])) [] (.seq (.region [ .o 60 .move [.t 0],
 .o 61 (.bin .lss) [.t 60,.const (.int .i64 7)], .o 59 .move [.t 61]] none [60,61]) (.cond (.T 59) [10] (.region [ .o 62 .move [.t 1],
 .o 63 (.bin .eql) [.t 62,.const (.int .i64 0)], .o 64 .move [.t 63], .y 65 .move [.t 2] 64, .y 66 (.bin .eql) [.t 65,.const (.int .i64 0)] 64,
 .o 67 .pick [.t 64,.t 66,.const (.bool false)], .o 10 .move [.t 67]] none [62,63,64,65,66,67]) [] (.seq (.region [ .o 69 .move [.t 0],
 .o 70 (.bin .gtr) [.t 69,.const (.int .i64 8)], .o 68 .move [.t 70]] none [69,70]) (.cond (.T 68) [10] (.region [ .o 71 .move [.t 1],
 .o 72 (.bin .eql) [.t 71,.const (.int .i64 1)], .o 73 .move [.t 72], .y 74 .move [.t 2] 73, .y 75 (.bin .eql) [.t 74,.const (.int .i64 1)] 73,
 .o 76 .pick [.t 73,.t 75,.const (.bool false)], .o 10 .move [.t 76]] none [71,72,73,74,75,76]) [] .skip))))))) (.seq (.seq (.region [
 .o 11 .move [.const (.int .i64 0)]] none []) (.block 1 (.loop s4_l0))) (.seq (.region [ .o 140 (.call 8) [], .o 6 .move [.t 140]] none [140]) .ret))))))))) }

/-- runrig/runriglaw8.TypedKnown -/
def s5_l0 : SCode :=
 (.seq (.seq (.region [ .o 22 .move [.t 7], .o 23 .move [.t 0], .o 24 (.bin .lss) [.t 22,.t 23]] none [22,23]) (.cond (.T 24) [] .skip [7] (.exit 0))) (.seq
 (.block 1 (.seq (.region [ .o 27 .move [.t 5], .o 28 (.bin .add) [.t 27,.const (.str [105,102,32,116,114,117,101,32,123,32])],
 .o 5 .move [.t 28]] none [27,28]) (.region [ .o 29 .move [.t 6], .o 30 (.bin .add) [.t 29,.const (.str [125,32])], .o 6 .move [.t 30]] none [29,30])))
 (.region [ .o 25 .move [.t 7], .o 26 (.bin .add) [.t 25,.const (.int .i64 1)], .o 7 .move [.t 26]] none [25,26])))
def s5_l1 : SCode :=
 (.seq (.seq (.region [ .o 80 .move [.t 14], .o 81 .move [.t 0], .o 82 (.bin .lss) [.t 80,.t 81]] none [80,81]) (.cond (.T 82) [] .skip [0,14] (.exit 2)))
 (.seq (.block 3 (.seq (.seq (.region [ .o 85 .move [.t 13], .o 86 (.len .sl) [.T 85], .o 87 (.bin .eql) [.t 86,.const (.int .i64 0)]] none [86])
 (.cond (.T 87) [0,11,13,14] (.seq (.region [ .o 4 .move [.const (.bool false)]] none []) .ret) [] .skip)) (.region [ .o 88 .move [.T 13],
 .o 89 (.indexAddr 9) [.T 88,.const (.int .i64 0)], .o 90 (.fieldAddr 5) [.T 89], .o 91 (.load false 1 false) [.T 90], .o 13 .move [.T 91]] none [])))
 (.region [ .o 83 .move [.t 14], .o 84 (.bin .add) [.t 83,.const (.int .i64 1)], .o 14 .move [.t 84]] none [83,84])))
def s5 : SFunc := { fid := 5,mode := .pure,nparams := 2,nboxes := 5,clr := [],results := [.tmp 4 false],body :=
 (.seq (.region [ .o 4 .move [.const (.bool false)]] none [4]) (.seq (.seq (.region [ .o 16 .move [.t 0], .o 17 (.bin .lss) [.t 16,.const (.int .i64 0)],
 .o 18 .move [.t 17], .z 19 .move [.t 0] 18, .z 20 (.bin .gtr) [.t 19,.const (.int .i64 10)] 18,
 .o 21 .pick [.t 18,.const (.bool true),.t 20]] none [16,17,18,19,20]) (.cond (.T 21) [0,1] (.seq (.region [ .o 4 .move [.const (.bool true)]] none [])
 .ret) [] .skip)) (.seq (.region [ .o 5 .move [.const (.str [])], .o 6 .move [.const (.str [])]] none []) (.seq (.seq (.region [
 .o 7 .move [.const (.int .i64 0)]] none []) (.block 0 (.loop s5_l0))) (.seq (.region [ .o 8 .move [.const (.str [])]] none []) (.seq (.seq (.region [
 .o 31 .move [.t 1]] none []) (.cond (.T 31) [8] (.region [ .o 8 .move [.const (.str [103,108,111,98,97,108,32,120,58,32,105,110,116,59,32])]] none []) []
 .skip)) (.seq (.region [ .o 33 .move [.t 8], .o 34 (.bin .add) [.t 33,.const (.str [102,117,110,99,32,109,97,105,110,40,41,32,123,32])], .o 35 .move [.t 5],
 .o 36 (.bin .add) [.t 34,.t 35],
 .o 37 (.bin .add) [.t 36,.const (.str [112,114,105,110,116,32,120,59,32,108,101,116,32,120,58,32,105,110,116,32,61,32,50,59,32])], .o 38 .move [.t 6],
 .o 39 (.bin .add) [.t 37,.t 38], .o 40 (.bin .add) [.t 39,.const (.str [112,114,105,110,116,32,120,59,32,125])], .o 41 (.call 6) [.t 40], .o 32 .move [.T 41],
 .o 42 (.extract 0) [.t 32], .o 43 (.extract 1) [.T 32], .o 9 (.allocF 0 [.nilSl,.nilSl,.nilSl]) [], .o 10 (.allocF 1 [.int .i64 0,.int .i64 0]) [],
 .n (.storeF 0 3) [.t 9,.T 42], .n (.storeF 1 2) [.t 10,.t 43]] none [5,6,8,10,33,34,35,36,37,38,39,40,43]) (.seq (.region [
 .o 45 (.loadF 0 true 3 false) [.t 9], .o 46 (.call 7) [.T 45], .o 44 .move [.T 46], .o 47 (.extract 0) [.t 44], .o 48 (.extract 1) [.T 44],
 .o 11 (.allocF 2 [.nilSl,.nilSl,.nilSl,.int .i64 0,.nilSl]) [], .o 12 (.allocF 3 [.int .i64 0,.int .i64 0]) [], .n (.storeF 2 5) [.t 11,.T 47],
 .n (.storeF 3 2) [.t 12,.t 48]] none [9,48]) (.seq (.seq (.region [ .o 49 .move [.t 1], .o 50 (.un .not) [.t 49]] none [1,49]) (.cond (.T 50) [0,11] (.seq
 (.region [ .o 51 (.fieldAddr 0) [.t 12], .o 52 (.loadF 3 false 1 false) [.t 51], .o 53 (.bin .eql) [.t 52,.const (.int .i64 3)], .o 54 .move [.t 53],
 .y 55 (.call 8) [] 54, .o 56 .pick [.t 54,.t 55,.const (.bool false)], .o 4 .move [.t 56]] none [12,51,52,53,54,55,56]) .ret) [] .skip)) (.seq (.seq
 (.region [ .o 57 (.fieldAddr 0) [.t 12], .o 58 (.loadF 3 false 1 false) [.t 57], .o 59 (.bin .neq) [.t 58,.const (.int .i64 0)], .o 60 .move [.t 59],
 .z 61 (.fieldAddr 4) [.t 11] 60, .z 62 (.loadF 2 false 1 false) [.t 61] 60, .z 63 (.len .sl) [.T 62] 60, .z 64 (.bin .neq) [.t 63,.const (.int .i64 1)] 60,
 .o 65 .pick [.t 60,.const (.bool true),.t 64], .o 66 .move [.t 65], .z 67 (.fieldAddr 4) [.t 11] 66, .z 68 (.loadF 2 false 1 false) [.t 67] 66,
 .z 69 (.indexAddr 3) [.T 68,.const (.int .i64 0)] 66, .z 70 (.fieldAddr 1) [.T 69] 66, .z 71 (.load false 1 false) [.T 70] 66, .z 72 (.len .sl) [.T 71] 66,
 .z 73 (.bin .lss) [.t 72,.const (.int .i64 2)] 66,
 .o 74 .pick [.t 66,.const (.bool true),.t 73]] none [12,57,58,59,60,61,62,63,64,65,66,67,68,69,70,71,72,73]) (.cond (.T 74) [0,11] (.seq (.region [
 .o 4 .move [.const (.bool false)]] none []) .ret) [] .skip)) (.seq (.region [ .o 75 (.fieldAddr 4) [.t 11], .o 76 (.loadF 2 false 1 false) [.t 75],
 .o 77 (.indexAddr 3) [.T 76,.const (.int .i64 0)], .o 78 (.fieldAddr 1) [.T 77], .o 79 (.load false 1 false) [.T 78], .o 13 .move [.T 79]] none [75]) (.seq
 (.seq (.region [ .o 14 .move [.const (.int .i64 0)]] none []) (.block 2 (.loop s5_l1))) (.seq (.region [ .o 92 (.fieldAddr 4) [.t 11],
 .o 93 (.loadF 2 false 1 false) [.t 92], .o 94 (.indexAddr 3) [.T 93,.const (.int .i64 0)], .o 95 (.fieldAddr 1) [.T 94], .o 96 (.load false 1 false) [.T 95],
 .o 97 (.fieldAddr 4) [.t 11], .o 98 (.loadF 2 false 1 false) [.t 97], .o 99 (.indexAddr 3) [.T 98,.const (.int .i64 0)], .o 100 (.fieldAddr 1) [.T 99],
 .o 101 (.load false 1 false) [.T 100], .o 102 (.len .sl) [.T 101], .o 103 (.bin .sub) [.t 102,.const (.int .i64 1)], .o 104 (.indexAddr 9) [.T 96,.t 103],
 .o 105 (.load true 9 false) [.T 104], .o 15 (.allocF 4 [.int .i64 0,.str [],.str [],.int .i64 0,.nilSl,.nilSl,.nilSl,.int .i64 0,.int .i64 0]) [],
 .n (.storeF 4 9) [.t 15,.T 105]] (some []) [11,92,97,102,103]) (.seq (.region [ .o 106 .move [.t 13], .o 107 (.len .sl) [.T 106],
 .o 108 (.bin .geq) [.t 107,.const (.int .i64 2)], .o 109 .move [.t 108], .y 110 .move [.t 13] 109, .y 111 (.indexAddr 9) [.T 110,.const (.int .i64 0)] 109,
 .y 112 (.fieldAddr 4) [.T 111] 109, .y 113 (.load false 1 false) [.T 112] 109, .y 114 (.len .sl) [.T 113] 109,
 .y 115 (.bin .eql) [.t 114,.const (.int .i64 1)] 109, .o 116 .pick [.t 109,.t 115,.const (.bool false)], .o 117 .move [.t 116], .y 118 .move [.t 13] 117,
 .y 119 (.indexAddr 9) [.T 118,.const (.int .i64 0)] 117, .y 120 (.fieldAddr 4) [.T 119] 117, .y 121 (.load false 1 false) [.T 120] 117,
 .y 122 (.indexAddr 11) [.T 121,.const (.int .i64 0)] 117, .y 123 (.fieldAddr 10) [.T 122] 117, .y 124 (.load false 1 false) [.T 123] 117,
 .y 125 (.bin .eql) [.t 124,.const (.int .i64 (-1))] 117, .o 126 .pick [.t 117,.t 125,.const (.bool false)], .o 127 .move [.t 126], .y 128 .move [.T 13] 127,
 .y 129 (.indexAddr 9) [.T 128,.const (.int .i64 1)] 127, .y 130 (.fieldAddr 8) [.T 129] 127, .y 131 (.load false 1 false) [.T 130] 127,
 .y 132 (.bin .eql) [.t 131,.const (.int .i64 0)] 127, .o 133 .pick [.t 127,.t 132,.const (.bool false)], .o 134 .move [.t 133],
 .y 135 (.fieldAddr 4) [.t 15] 134, .y 136 (.loadF 4 false 1 false) [.t 135] 134, .y 137 (.len .sl) [.T 136] 134,
 .y 138 (.bin .eql) [.t 137,.const (.int .i64 1)] 134, .o 139 .pick [.t 134,.t 138,.const (.bool false)], .o 140 .move [.t 139],
 .y 141 (.fieldAddr 4) [.t 15] 140, .y 142 (.loadF 4 false 1 false) [.t 141] 140, .y 143 (.indexAddr 11) [.T 142,.const (.int .i64 0)] 140,
 .y 144 (.fieldAddr 10) [.T 143] 140, .y 145 (.load false 1 false) [.T 144] 140, .y 146 (.bin .eql) [.t 145,.const (.int .i64 0)] 140,
 .o 147 .pick [.t 140,.t 146,.const (.bool false)], .o 148 .move [.t 147], .y 149 (.call 8) [] 148, .o 150 .pick [.t 148,.t 149,.const (.bool false)],
 .o 4 .move [.t 150]] none [13,15,107,108,109,110,111,112,113,114,115,116,117,118,119,120,121,122,123,124,125,126,127,128,129,130,131,132,133,134,135,136,137,138,139,140,141,142,143,144,145,146,147,148,149,150])
 .ret)))))))))))))) }

/-- runrig/runrigref3.Prog -/
def s6_l0 : SCode :=
 (.seq (.seq (.region [ .o 21 .move [.t 6], .o 22 (.call 12) [.t 21], .o 23 .move [.t 22], .y 24 .move [.t 6] 23, .y 25 (.call 13) [.t 24] 23,
 .y 26 (.field 0 1 false) [.t 25] 23, .y 27 (.bin .neq) [.t 26,.const (.int .i64 0)] 23,
 .o 28 .pick [.t 23,.t 27,.const (.bool false)]] none [21,22,23,24,25,26,27]) (.cond (.T 28) [] .skip [] (.exit 0))) (.block 1 (.block 2 (.seq (.seq (.region [
 .o 32 .move [.t 6], .o 33 (.call 14) [.t 32,.const (.str [114,101,99,111,114,100])], .o 34 .move [.t 33], .y 35 (.fieldAddr 0) [.t 7] 34,
 .y 36 (.loadF 3 false 1 false) [.t 35] 34, .y 37 (.len .sl) [.T 36] 34, .y 38 (.bin .eql) [.t 37,.const (.int .i64 12)] 34,
 .o 39 .pick [.t 34,.t 38,.const (.bool false)], .o 31 .move [.t 39]] none [32,33,34,35,36,37,38,39]) (.cond (.t 31) [] .skip [31] (.seq (.region [
 .o 40 .move [.t 6], .o 41 (.call 14) [.t 40,.const (.str [103,108,111,98,97,108])], .o 42 .move [.t 41], .y 43 (.fieldAddr 1) [.t 7] 42,
 .y 44 (.loadF 3 false 1 false) [.t 43] 42, .y 45 (.len .sl) [.T 44] 42, .y 46 (.bin .eql) [.t 45,.const (.int .i64 8)] 42,
 .o 47 .pick [.t 42,.t 46,.const (.bool false)], .o 31 .move [.t 47]] none [40,41,42,43,44,45,46,47]) (.cond (.t 31) [] .skip [31] (.region [
 .o 48 .move [.t 6], .o 49 (.call 14) [.t 48,.const (.str [102,117,110,99])], .o 50 .move [.t 49], .y 51 (.fieldAddr 2) [.t 7] 50,
 .y 52 (.loadF 3 false 1 false) [.t 51] 50, .y 53 (.len .sl) [.T 52] 50, .y 54 (.bin .eql) [.t 53,.const (.int .i64 16)] 50,
 .o 55 .pick [.t 50,.t 54,.const (.bool false)], .o 31 .move [.t 55]] none [48,49,50,51,52,53,54,55]))))) (.cond (.T 31) [] (.region [ .o 56 .move [.t 6],
 .o 57 (.call 15) [.t 56,.const (.int .i64 4)]] none [56,57]) [] (.seq (.region [ .o 59 .move [.t 6],
 .o 60 (.call 14) [.t 59,.const (.str [114,101,99,111,114,100])], .o 58 .move [.t 60]] none [59,60]) (.cond (.T 58) [] (.seq (.region [ .o 61 .move [.t 6],
 .o 62 .nilCheck [.t 61], .o 63 (.fieldAddr 1) [.T 62], .o 64 (.load false 1 false) [.T 63], .o 65 (.bin .add) [.t 64,.const (.int .i64 1)],
 .o 66 .nilCheck [.t 61], .o 67 (.fieldAddr 1) [.T 66], .n (.store 1) [.T 67,.t 65]] none [61,64,65]) (.region [ .o 68 (.fieldAddr 0) [.t 7],
 .o 69 (.loadF 3 false 1 true) [.t 68], .o 70 .move [.t 6], .o 71 (.call 16) [.t 70], .o 72 (.lit 3 1 [.str [],.nilSl,.int .i64 0] [0]) [.T 71],
 .o 73 (.append 3 48) [.T 69,.T 72], .o 74 (.fieldAddr 0) [.t 7], .n (.storeF 3 1) [.t 74,.T 73]] (some []) [68,70,74])) [] (.seq (.region [
 .o 76 .move [.t 6], .o 77 (.call 14) [.t 76,.const (.str [103,108,111,98,97,108])], .o 75 .move [.t 77]] none [76,77]) (.cond (.T 75) [] (.seq (.region [
 .o 78 .move [.t 6], .o 79 .nilCheck [.t 78], .o 80 (.fieldAddr 1) [.T 79], .o 81 (.load false 1 false) [.T 80],
 .o 82 (.bin .add) [.t 81,.const (.int .i64 1)], .o 83 .nilCheck [.t 78], .o 84 (.fieldAddr 1) [.T 83], .n (.store 1) [.T 84,.t 82]] none [78,81,82]) (.seq
 (.region [ .o 85 (.fieldAddr 1) [.t 7], .o 86 (.loadF 3 false 1 true) [.t 85], .o 87 .move [.t 6], .o 88 (.call 17) [.t 87],
 .o 89 (.lit 4 1 [.str [],.str [],.int .i64 0,.int .i64 0] [0]) [.t 88], .o 90 (.append 4 48) [.T 86,.T 89], .o 91 (.fieldAddr 1) [.t 7],
 .n (.storeF 3 1) [.t 91,.T 90]] (some []) [85,87,88,91]) (.region [ .o 92 .move [.t 6], .o 93 (.call 18) [.t 92,.const (.str [59])]] none [92,93]))) [] (.seq
 (.region [ .o 95 .move [.t 6], .o 96 (.call 14) [.t 95,.const (.str [102,117,110,99])], .o 94 .move [.t 96]] none [95,96]) (.cond (.T 94) [] (.seq (.region [
 .o 97 .move [.t 6], .o 98 .nilCheck [.t 97], .o 99 (.fieldAddr 1) [.T 98], .o 100 (.load false 1 false) [.T 99],
 .o 101 (.bin .add) [.t 100,.const (.int .i64 1)], .o 102 .nilCheck [.t 97], .o 103 (.fieldAddr 1) [.T 102], .n (.store 1) [.T 103,.t 101]] none [97,100,101])
 (.region [ .o 104 (.fieldAddr 2) [.t 7], .o 105 (.loadF 3 false 1 true) [.t 104], .o 106 .move [.t 6], .o 107 (.call 19) [.t 106],
 .o 108 (.lit 7 1 [.str [],.nilSl,.bool false,.str [],.int .i64 0,.nilSl,.int .i64 0] [0]) [.T 107], .o 109 (.append 7 104) [.T 105,.T 108],
 .o 110 (.fieldAddr 2) [.t 7], .n (.storeF 3 1) [.t 110,.T 109]] (some []) [104,106,110])) [] (.region [ .o 29 .move [.t 6],
 .o 30 (.call 15) [.t 29,.const (.int .i64 2)]] none [29,30]))))))))))))
def s6 : SFunc := { fid := 6,mode := .pure,nparams := 1,nboxes := 4,clr := [],results := [.box 2 0 3 true,.box 3 1 2 true],body :=
 (.seq (.region [ .o 2 (.allocF 0 [.nilSl,.nilSl,.nilSl]) [], .o 3 (.allocF 1 [.int .i64 0,.int .i64 0]) []] none []) (.seq (.region [ .o 9 .move [.t 0],
 .o 10 (.call 11) [.t 9], .o 8 .move [.T 10], .o 11 (.extract 0) [.t 8], .o 12 (.extract 1) [.T 8], .o 5 (.allocF 2 [.int .i64 0,.int .i64 0]) [],
 .o 4 .move [.T 11], .n (.storeF 2 2) [.t 5,.t 12]] none [0,9,12]) (.seq (.seq (.region [ .o 13 (.fieldAddr 0) [.t 5], .o 14 (.loadF 2 false 1 false) [.t 13],
 .o 15 (.bin .neq) [.t 14,.const (.int .i64 0)]] none [13,14]) (.cond (.T 15) [4] (.seq (.region [ .o 16 (.build [.nilSl,.nilSl,.nilSl] []) [],
 .o 17 (.loadF 2 true 2 false) [.t 5], .n (.storeF 0 3) [.t 2,.T 16], .n (.storeF 1 2) [.t 3,.t 17]] (some []) [5,17]) .ret) [5] .skip)) (.seq (.region [
 .o 18 .move [.T 4], .o 19 (.build [.nilSl,.int .i64 0,.int .i64 0,.int .i64 0,.int .i64 0] [(0,1)]) [.T 18], .o 20 (.box 5) [.T 19],
 .o 6 .move [.t 20]] none [20]) (.seq (.region [ .o 7 (.allocF 3 [.nilSl,.nilSl,.nilSl]) []] none []) (.seq (.block 0 (.loop s6_l0)) (.seq (.seq (.region [
 .o 111 .move [.t 6], .o 112 (.call 12) [.t 111], .o 113 (.un .not) [.t 112]] none [111,112]) (.cond (.T 113) [7] (.seq (.region [
 .o 114 (.build [.nilSl,.nilSl,.nilSl] []) [], .o 115 .move [.t 6], .o 116 .nilCheck [.t 115], .o 117 (.fieldAddr 3) [.T 116],
 .o 118 (.load true 2 false) [.T 117], .n (.storeF 0 3) [.t 2,.T 114], .n (.storeF 1 2) [.t 3,.t 118]] (some []) [6,115,118]) .ret) [6] .skip)) (.seq
 (.region [ .o 119 (.loadF 3 true 3 false) [.t 7], .o 120 (.build [.int .i64 0,.int .i64 0] []) [], .n (.storeF 0 3) [.t 2,.T 119],
 .n (.storeF 1 2) [.t 3,.t 120]] none [7,120]) .ret)))))))) }

/-- runrig/typed.Check -/
def s7_l0 : SCode :=
 (.seq (.region [ .o 29 (.bin .lss) [.t 28,.t 27]] none []) (.seq (.cond (.T 29) [] .skip [26,27,28] (.exit 0)) (.seq (.block 1 (.seq (.region [
 .o 30 (.indexAddr 3) [.t 26,.t 28], .o 31 (.load true 3 false) [.T 30], .o 8 (.allocF 5 [.str [],.nilSl,.int .i64 0]) [],
 .n (.storeF 5 3) [.t 8,.T 31]] none []) (.region [ .o 32 .move [.t 6], .o 33 .move [.t 6], .o 34 .nilCheck [.t 33], .o 35 (.fieldAddr 4) [.T 34],
 .o 36 (.load false 1 true) [.T 35], .o 37 (.fieldAddr 0) [.t 8], .o 38 (.loadF 5 false 1 false) [.t 37], .o 39 (.lit 1 1 [.str []] [0]) [.t 38],
 .o 40 (.append 1 16) [.T 36,.T 39], .o 41 .nilCheck [.t 32], .o 42 (.fieldAddr 4) [.T 41], .n (.store 1) [.T 42,.T 40]] (some []) [8,32,33,37,38])))
 (.region [ .o 43 (.bin .add) [.t 28,.const (.int .i64 1)], .o 28 .move [.t 43]] none [43]))))
def s7_l1 : SCode :=
 (.seq (.region [ .o 50 (.bin .lss) [.t 49,.t 48]] none []) (.seq (.cond (.T 50) [] .skip [4,6,47,48,49] (.exit 2)) (.seq (.block 3 (.seq (.region [
 .o 51 .move [.t 49], .o 52 (.indexAddr 7) [.t 47,.t 49], .o 53 (.load true 7 false) [.T 52],
 .o 11 (.allocF 7 [.str [],.nilSl,.bool false,.str [],.int .i64 0,.nilSl,.int .i64 0]) [], .o 10 .move [.t 51], .n (.storeF 7 7) [.t 11,.T 53]] none [51])
 (.seq (.region [ .o 54 (.fieldAddr 4) [.t 9], .o 55 (.loadF 6 false 1 true) [.t 54], .o 56 .move [.t 6], .o 57 (.loadF 7 true 7 false) [.t 11],
 .o 58 (.fieldAddr 2) [.t 4], .o 59 (.loadF 3 false 1 false) [.t 58], .o 60 .move [.t 10], .o 61 (.indexAddr 6) [.T 59,.t 60],
 .o 62 (.load true 6 false) [.T 61], .o 63 (.call 21) [.t 56,.T 57,.T 62], .o 64 (.lit 3 1 [.nilSl,.nilSl,.int .i64 0] [0]) [.T 63],
 .o 65 (.append 3 56) [.T 55,.T 64], .o 66 (.fieldAddr 4) [.t 9], .n (.storeF 6 1) [.t 66,.T 65]] (some []) [10,11,54,56,58,60,66]) (.seq (.region [
 .o 67 .move [.t 6], .o 68 (.call 22) [.t 67]] none [67]) (.cond (.T 68) [4,9,47,48,49] (.seq (.region [
 .o 69 (.build [.nilSl,.nilSl,.nilSl,.int .i64 0,.nilSl] []) [], .o 70 .move [.t 6], .o 71 .nilCheck [.t 70], .o 72 (.fieldAddr 12) [.T 71],
 .o 73 (.load true 2 false) [.T 72], .n (.storeF 1 5) [.t 2,.T 69], .n (.storeF 2 2) [.t 3,.t 73]] (some []) [6,70,73]) .ret) [] .skip))))) (.region [
 .o 74 (.bin .add) [.t 49,.const (.int .i64 1)], .o 49 .move [.t 74]] none [74]))))
def s7 : SFunc := { fid := 7,mode := .pure,nparams := 1,nboxes := 8,clr := [],results := [.box 2 1 5 true,.box 3 2 2 true],body :=
 (.seq (.region [ .o 1 (.boxF 0 3) [.T 0], .o 2 (.allocF 1 [.nilSl,.nilSl,.nilSl,.int .i64 0,.nilSl]) [],
 .o 3 (.allocF 2 [.int .i64 0,.int .i64 0]) []] none []) (.seq (.region [ .o 13 (.loadF 0 true 3 false) [.t 1], .o 14 (.call 20) [.T 13], .o 12 .move [.T 14],
 .o 15 (.extract 0) [.t 12], .o 16 (.extract 1) [.T 12], .o 4 (.allocF 3 [.nilSl,.nilSl,.nilSl,.int .i64 0]) [], .o 5 (.allocF 4 [.int .i64 0,.int .i64 0]) [],
 .n (.storeF 3 4) [.t 4,.T 15], .n (.storeF 4 2) [.t 5,.t 16]] none [16]) (.seq (.seq (.region [ .o 17 (.fieldAddr 0) [.t 5],
 .o 18 (.loadF 4 false 1 false) [.t 17], .o 19 (.bin .neq) [.t 18,.const (.int .i64 0)]] none [17,18]) (.cond (.T 19) [1,4] (.seq (.region [
 .o 20 (.build [.nilSl,.nilSl,.nilSl,.int .i64 0,.nilSl] []) [], .o 21 (.loadF 4 true 2 false) [.t 5], .n (.storeF 1 5) [.t 2,.T 20],
 .n (.storeF 2 2) [.t 3,.t 21]] (some []) [5,21]) .ret) [5] .skip)) (.seq (.region [ .o 22 (.loadF 3 true 4 false) [.t 4],
 .o 23 (.build [.nilSl,.nilSl,.nilSl,.int .i64 0,.nilSl,.str [],.nilSl,.bool false,.int .i64 0,.int .i64 0,.int .i64 0,.nilSl,.int .i64 0,.int .i64 0] [(0,4)]) [.T 22],
 .o 24 (.box 14) [.T 23], .o 6 .move [.t 24]] none [24]) (.seq (.seq (.region [ .o 25 (.fieldAddr 0) [.t 1], .o 26 (.loadF 0 false 1 false) [.t 25],
 .o 27 (.len .sl) [.t 26], .o 28 .move [.const (.int .i64 0)]] none [25]) (.block 0 (.loop s7_l0))) (.seq (.region [ .o 44 (.loadF 3 true 4 false) [.t 4],
 .o 45 (.build [.nilSl,.nilSl,.nilSl,.int .i64 0,.nilSl] [(0,4)]) [.T 44], .o 9 (.allocF 6 [.nilSl,.nilSl,.nilSl,.int .i64 0,.nilSl]) [],
 .n (.storeF 6 5) [.t 9,.T 45]] none []) (.seq (.seq (.region [ .o 46 (.fieldAddr 2) [.t 1], .o 47 (.loadF 0 false 1 false) [.t 46], .o 48 (.len .sl) [.t 47],
 .o 49 .move [.const (.int .i64 0)]] none [1,46]) (.block 2 (.loop s7_l1))) (.seq (.region [ .o 75 (.loadF 6 true 5 false) [.t 9],
 .o 76 (.build [.int .i64 0,.int .i64 0] []) [], .n (.storeF 1 5) [.t 2,.T 75], .n (.storeF 2 2) [.t 3,.t 76]] none [9,76]) .ret)))))))) }

/-- runrig/runriglaw8.known -/

def s8 : SFunc := { fid := 8,mode := .pure,nparams := 0,nboxes := 4,clr := [],results := [.tmp 0 false],body :=
 (.seq (.region [ .o 0 .move [.const (.bool false)]] none [0]) (.seq (.region [
 .o 6 (.call 6) [.const (.str [102,117,110,99,32,109,97,105,110,40,41,32,123,32,108,101,116,32,120,58,32,105,110,116,32,61,32,49,32,43,32,50,59,32,112,114,105,110,116,32,120,59,32,125])],
 .o 5 .move [.T 6], .o 7 (.extract 0) [.t 5], .o 8 (.extract 1) [.T 5], .o 1 (.allocF 0 [.nilSl,.nilSl,.nilSl]) [],
 .o 2 (.allocF 1 [.int .i64 0,.int .i64 0]) [], .n (.storeF 0 3) [.t 1,.T 7], .n (.storeF 1 2) [.t 2,.t 8]] none [2,8]) (.seq (.region [
 .o 10 (.loadF 0 true 3 false) [.t 1], .o 11 (.call 7) [.T 10], .o 9 .move [.T 11], .o 12 (.extract 0) [.t 9], .o 13 (.extract 1) [.T 9],
 .o 3 (.allocF 2 [.nilSl,.nilSl,.nilSl,.int .i64 0,.nilSl]) [], .o 4 (.allocF 3 [.int .i64 0,.int .i64 0]) [], .n (.storeF 2 5) [.t 3,.T 12],
 .n (.storeF 3 2) [.t 4,.t 13]] none [1,13]) (.seq (.region [ .o 14 (.fieldAddr 0) [.t 4], .o 15 (.loadF 3 false 1 false) [.t 14],
 .o 16 (.bin .eql) [.t 15,.const (.int .i64 0)], .o 17 .move [.t 16], .y 18 (.fieldAddr 4) [.t 3] 17, .y 19 (.loadF 2 false 1 false) [.t 18] 17,
 .y 20 (.len .sl) [.T 19] 17, .y 21 (.bin .eql) [.t 20,.const (.int .i64 1)] 17, .o 22 .pick [.t 17,.t 21,.const (.bool false)], .o 23 .move [.t 22],
 .y 24 (.fieldAddr 4) [.t 3] 23, .y 25 (.loadF 2 false 1 false) [.t 24] 23, .y 26 (.indexAddr 3) [.T 25,.const (.int .i64 0)] 23,
 .y 27 (.fieldAddr 0) [.T 26] 23, .y 28 (.load false 1 false) [.T 27] 23, .y 29 (.len .sl) [.T 28] 23, .y 30 (.bin .eql) [.t 29,.const (.int .i64 1)] 23,
 .o 31 .pick [.t 23,.t 30,.const (.bool false)], .o 32 .move [.t 31], .y 33 (.fieldAddr 4) [.t 3] 32, .y 34 (.loadF 2 false 1 false) [.t 33] 32,
 .y 35 (.indexAddr 3) [.T 34,.const (.int .i64 0)] 32, .y 36 (.fieldAddr 1) [.T 35] 32, .y 37 (.load false 1 false) [.T 36] 32, .y 38 (.len .sl) [.T 37] 32,
 .y 39 (.bin .eql) [.t 38,.const (.int .i64 2)] 32, .o 40 .pick [.t 32,.t 39,.const (.bool false)], .o 41 .move [.t 40], .y 42 (.fieldAddr 4) [.t 3] 41,
 .y 43 (.loadF 2 false 1 false) [.t 42] 41, .y 44 (.indexAddr 3) [.T 43,.const (.int .i64 0)] 41, .y 45 (.fieldAddr 1) [.T 44] 41,
 .y 46 (.load false 1 false) [.T 45] 41, .y 47 (.indexAddr 9) [.T 46,.const (.int .i64 0)] 41, .y 48 (.fieldAddr 4) [.T 47] 41,
 .y 49 (.load false 1 false) [.T 48] 41, .y 50 (.len .sl) [.T 49] 41, .y 51 (.bin .eql) [.t 50,.const (.int .i64 1)] 41,
 .o 52 .pick [.t 41,.t 51,.const (.bool false)], .o 53 .move [.t 52], .y 54 (.fieldAddr 4) [.t 3] 53, .y 55 (.loadF 2 false 1 false) [.t 54] 53,
 .y 56 (.indexAddr 3) [.T 55,.const (.int .i64 0)] 53, .y 57 (.fieldAddr 1) [.T 56] 53, .y 58 (.load false 1 false) [.T 57] 53,
 .y 59 (.indexAddr 9) [.T 58,.const (.int .i64 0)] 53, .y 60 (.fieldAddr 4) [.T 59] 53, .y 61 (.load false 1 false) [.T 60] 53,
 .y 62 (.indexAddr 11) [.T 61,.const (.int .i64 0)] 53, .y 63 (.fieldAddr 7) [.T 62] 53, .y 64 (.load true 3 false) [.T 63] 53,
 .y 65 (.build [.int .i64 0,.int .i64 0,.int .i64 0] [(0,1)]) [.const (.int .i64 1)] 53, .y 66 (.eqv (.flat [.int,.int,.int]) false) [.t 64,.t 65] 53,
 .o 67 .pick [.t 53,.t 66,.const (.bool false)],
 .o 0 .move [.t 67]] none [3,4,14,15,16,17,18,19,20,21,22,23,24,25,26,27,28,29,30,31,32,33,34,35,36,37,38,39,40,41,42,43,44,45,46,47,48,49,50,51,52,53,54,55,56,57,58,59,60,61,62,63,64,65,66,67])
 .ret)))) }

/-- runrig/runriglaw8.again -/
def s9_l0 : SCode :=
 (.seq (.seq (.region [ .o 13 .move [.t 6], .o 14 (.fieldAddr 2) [.t 2], .o 15 (.loadF 0 false 1 false) [.t 14], .o 16 (.len .sl) [.T 15],
 .o 17 (.bin .lss) [.t 13,.t 16]] none [13,14,16]) (.cond (.T 17) [] .skip [2,3,6] (.exit 0))) (.seq (.block 1 (.seq (.region [ .o 20 (.fieldAddr 2) [.t 2],
 .o 21 (.loadF 0 false 1 false) [.t 20], .o 22 .move [.t 6], .o 23 (.indexAddr 7) [.T 21,.t 22], .o 24 (.load true 7 false) [.T 23],
 .o 7 (.allocF 4 [.str [],.nilSl,.bool false,.str [],.int .i64 0,.nilSl,.int .i64 0]) [], .n (.storeF 4 7) [.t 7,.T 24]] none [20,22]) (.seq (.region [
 .o 25 (.fieldAddr 4) [.t 3], .o 26 (.loadF 1 false 1 false) [.t 25], .o 27 .move [.t 6], .o 28 (.indexAddr 3) [.T 26,.t 27], .o 29 (.fieldAddr 1) [.T 28],
 .o 30 (.load false 1 false) [.T 29], .o 31 (.fieldAddr 5) [.t 7], .n (.storeF 4 1) [.t 31,.T 30]] none [25,27,31]) (.region [ .o 32 (.fieldAddr 2) [.t 5],
 .o 33 (.loadF 3 false 1 true) [.t 32], .o 34 (.loadF 4 true 7 false) [.t 7],
 .o 35 (.lit 7 1 [.str [],.nilSl,.bool false,.str [],.int .i64 0,.nilSl,.int .i64 0] [0]) [.T 34], .o 36 (.append 7 104) [.T 33,.T 35],
 .o 37 (.fieldAddr 2) [.t 5], .n (.storeF 3 1) [.t 37,.T 36]] none [7,32,37])))) (.region [ .o 18 .move [.t 6], .o 19 (.bin .add) [.t 18,.const (.int .i64 1)],
 .o 6 .move [.t 19]] none [18,19])))
def s9 : SFunc := { fid := 9,mode := .pure,nparams := 2,nboxes := 5,clr := [],results := [.box 4 2 3 true],body :=
 (.seq (.region [ .o 2 (.boxF 0 3) [.T 0], .o 3 (.boxF 1 5) [.T 1], .o 4 (.allocF 2 [.nilSl,.nilSl,.nilSl]) []] none []) (.seq (.region [
 .o 8 (.fieldAddr 0) [.t 2], .o 9 (.loadF 0 false 1 false) [.t 8], .o 10 (.fieldAddr 1) [.t 2], .o 11 (.loadF 0 false 1 false) [.t 10],
 .o 12 (.build [.nilSl,.nilSl,.nilSl] [(0,1),(1,1)]) [.T 9,.T 11], .o 5 (.allocF 3 [.nilSl,.nilSl,.nilSl]) [], .n (.storeF 3 3) [.t 5,.T 12]] none [8,10])
 (.seq (.seq (.region [ .o 6 .move [.const (.int .i64 0)]] none []) (.block 0 (.loop s9_l0))) (.seq (.region [ .o 38 (.loadF 3 true 3 false) [.t 5],
 .n (.storeF 2 3) [.t 4,.T 38]] none [5]) .ret)))) }

/-- runrig/runriglaw8.alike -/
def s10_l0 : SCode :=
 (.seq (.seq (.region [ .o 23 .move [.t 5], .o 24 (.fieldAddr 4) [.t 2], .o 25 (.loadF 0 false 1 false) [.t 24], .o 26 (.len .sl) [.T 25],
 .o 27 (.bin .lss) [.t 23,.t 26]] none [23,24,26]) (.cond (.T 27) [] .skip [2,3,5] (.exit 0))) (.seq (.block 1 (.seq (.region [ .o 30 (.fieldAddr 4) [.t 2],
 .o 31 (.loadF 0 false 1 false) [.t 30], .o 32 .move [.t 5], .o 33 (.indexAddr 3) [.T 31,.t 32], .o 34 (.load true 3 false) [.T 33],
 .o 35 (.fieldAddr 4) [.t 3], .o 36 (.loadF 1 false 1 false) [.t 35], .o 37 .move [.t 5], .o 38 (.indexAddr 3) [.T 36,.t 37],
 .o 39 (.load true 3 false) [.T 38], .o 6 (.allocF 2 [.nilSl,.nilSl,.int .i64 0]) [], .o 7 (.allocF 3 [.nilSl,.nilSl,.int .i64 0]) [],
 .n (.storeF 2 3) [.t 6,.T 34], .n (.storeF 3 3) [.t 7,.T 39]] (some []) [30,32,35,37]) (.seq (.region [ .o 40 (.fieldAddr 2) [.t 6],
 .o 41 (.loadF 2 false 1 false) [.t 40], .o 42 (.fieldAddr 2) [.t 7], .o 43 (.loadF 3 false 1 false) [.t 42], .o 44 (.bin .neq) [.t 41,.t 43],
 .o 45 .move [.t 44], .z 46 (.fieldAddr 0) [.t 6] 45, .z 47 (.loadF 2 false 1 false) [.t 46] 45, .z 48 (.fieldAddr 0) [.t 7] 45,
 .z 49 (.loadF 3 false 1 false) [.t 48] 45, .z 50 (.call 24) [.T 47,.T 49] 45, .z 51 (.un .not) [.t 50] 45, .o 52 .pick [.t 45,.const (.bool true),.t 51],
 .o 53 .move [.t 52], .z 54 (.fieldAddr 1) [.t 6] 53, .z 55 (.loadF 2 false 1 false) [.t 54] 53, .z 56 (.fieldAddr 1) [.t 7] 53,
 .z 57 (.loadF 3 false 1 false) [.t 56] 53, .z 58 (.call 25) [.T 55,.T 57] 53, .z 59 (.un .not) [.t 58] 53, .o 60 .pick [.t 53,.const (.bool true),.t 59],
 .o 61 .move [.t 60], .z 62 (.fieldAddr 1) [.t 6] 61, .z 63 (.loadF 2 false 1 false) [.t 62] 61, .z 64 (.fieldAddr 1) [.t 7] 61,
 .z 65 (.loadF 3 false 1 false) [.t 64] 61, .z 66 (.call 26) [.T 63,.T 65] 61, .z 67 (.un .not) [.t 66] 61,
 .o 68 .pick [.t 61,.const (.bool true),.t 67]] none [6,7,40,41,42,43,44,45,46,47,48,49,50,51,52,53,54,55,56,57,58,59,60,61,62,63,64,65,66,67])
 (.cond (.T 68) [2,3,5] (.seq (.region [ .o 4 .move [.const (.bool false)]] none []) .ret) [] .skip)))) (.region [ .o 28 .move [.t 5],
 .o 29 (.bin .add) [.t 28,.const (.int .i64 1)], .o 5 .move [.t 29]] none [28,29])))
def s10 : SFunc := { fid := 10,mode := .pure,nparams := 2,nboxes := 4,clr := [],results := [.tmp 4 false],body :=
 (.seq (.region [ .o 2 (.boxF 0 5) [.T 0], .o 3 (.boxF 1 5) [.T 1], .o 4 .move [.const (.bool false)]] none [4]) (.seq (.seq (.region [
 .o 8 (.fieldAddr 0) [.t 2], .o 9 (.loadF 0 true 4 false) [.t 8], .o 10 (.fieldAddr 0) [.t 3], .o 11 (.loadF 1 true 4 false) [.t 10],
 .o 12 (.call 23) [.T 9,.T 11], .o 13 (.un .not) [.t 12], .o 14 .move [.t 13], .z 15 (.fieldAddr 4) [.t 2] 14, .z 16 (.loadF 0 false 1 false) [.t 15] 14,
 .z 17 (.len .sl) [.T 16] 14, .z 18 (.fieldAddr 4) [.t 3] 14, .z 19 (.loadF 1 false 1 false) [.t 18] 14, .z 20 (.len .sl) [.T 19] 14,
 .z 21 (.bin .neq) [.t 17,.t 20] 14, .o 22 .pick [.t 14,.const (.bool true),.t 21]] none [8,10,12,13,14,15,16,17,18,19,20,21]) (.cond (.T 22) [2,3] (.seq
 (.region [ .o 4 .move [.const (.bool false)]] none []) .ret) [] .skip)) (.seq (.seq (.region [ .o 5 .move [.const (.int .i64 0)]] none []) (.block 0
 (.loop s10_l0))) (.seq (.region [ .o 4 .move [.const (.bool true)]] none []) .ret)))) }

/-- runrig/runrigref2.Tokens -/
def s11_l0 : SCode :=
 (.seq (.seq (.region [ .o 14 .move [.t 5], .o 15 .move [.t 0], .o 16 (.len .str) [.t 15], .o 17 (.bin .lss) [.t 14,.t 16]] none [14,15,16]) (.cond (.T 17) []
 .skip [5] (.exit 0))) (.block 1 (.seq (.region [ .o 19 .move [.t 0], .o 20 .move [.t 5], .o 21 (.call 28) [.t 19,.t 20], .o 18 .move [.T 21],
 .o 22 (.extract 0) [.t 18], .o 23 (.extract 1) [.T 18], .o 6 (.allocF 1 [.int .i64 0,.str [],.int .i64 0,.int .i64 0]) [], .n (.storeF 1 4) [.t 6,.t 22],
 .o 7 .move [.t 23]] none [19,20,22,23]) (.seq (.seq (.region [ .o 24 .move [.t 7], .o 25 (.bin .eql) [.t 24,.const (.int .i64 0)]] none [24])
 (.cond (.T 25) [0,4,6,7] (.seq (.region [ .o 26 .move [.t 5], .o 27 (.build [.int .i64 0,.int .i64 0] [(0,1),(1,1)]) [.const (.int .i64 1),.t 26],
 .o 2 .move [.const .nilSl], .n (.storeF 0 2) [.t 3,.t 27]] none [5,26,27]) .ret) [] .skip)) (.seq (.region [ .o 28 .move [.T 4],
 .o 29 (.loadF 1 true 4 false) [.t 6], .o 30 (.lit 4 1 [.int .i64 0,.str [],.int .i64 0,.int .i64 0] [0]) [.t 29], .o 31 (.append 4 40) [.T 28,.T 30],
 .o 4 .move [.T 31]] none [6,29]) (.region [ .o 32 .move [.t 0], .o 33 .move [.t 5], .o 34 .move [.t 7], .o 35 (.bin .add) [.t 33,.t 34],
 .o 36 (.call 27) [.t 32,.t 35], .o 5 .move [.t 36]] none [7,32,33,34,35,36]))))))
def s11 : SFunc := { fid := 11,mode := .pure,nparams := 1,nboxes := 2,clr := [],results := [.tmp 2 true,.box 3 0 2 true],body :=
 (.seq (.region [ .o 2 .move [.const .nilSl], .o 3 (.allocF 0 [.int .i64 0,.int .i64 0]) []] none [2]) (.seq (.seq (.region [ .o 8 .move [.t 0],
 .o 9 (.len .str) [.t 8], .o 10 (.bin .gtr) [.t 9,.const (.int .i64 6000)]] none [8,9]) (.cond (.T 10) [0] (.seq (.region [
 .o 11 (.build [.int .i64 0,.int .i64 0] [(0,1)]) [.const (.int .i64 4)], .o 2 .move [.const .nilSl], .n (.storeF 0 2) [.t 3,.t 11]] none [11]) .ret) []
 .skip)) (.seq (.region [ .o 4 .move [.const .nilSl]] none []) (.seq (.region [ .o 12 .move [.t 0], .o 13 (.call 27) [.t 12,.const (.int .i64 0)],
 .o 5 .move [.t 13]] none [12,13]) (.seq (.block 0 (.loop s11_l0)) (.seq (.region [ .o 37 .move [.T 4], .o 38 .move [.t 0], .o 39 (.len .str) [.t 38],
 .o 40 (.build [.int .i64 0,.str [],.int .i64 0,.int .i64 0] [(0,1),(3,1)]) [.const (.int .i64 0),.t 39],
 .o 41 (.lit 4 1 [.int .i64 0,.str [],.int .i64 0,.int .i64 0] [0]) [.t 40], .o 42 (.append 4 40) [.T 37,.T 41],
 .o 43 (.build [.int .i64 0,.int .i64 0] []) [], .o 2 .move [.T 42], .n (.storeF 0 2) [.t 3,.t 43]] none [0,38,39,40,43]) .ret)))))) }

/-- (*runrig/runrigref3.reader).ok -/

def s12 : SFunc := { fid := 12,mode := .scp,nparams := 1,nboxes := 0,clr := [],results := [.tmp 2 false],body :=
 (.seq (.region [ .o 2 .move [.const (.bool false)]] none [2]) (.seq (.region [ .o 3 .move [.t 0], .o 4 .nilCheck [.t 3], .o 5 (.fieldAddr 3) [.T 4],
 .o 6 (.fieldAddr 0) [.T 5], .o 7 (.load false 1 false) [.T 6], .o 8 (.bin .eql) [.t 7,.const (.int .i64 0)], .o 2 .move [.t 8]] none [0,3,7,8]) .ret)) }

/-- (*runrig/runrigref3.reader).tok -/

def s13 : SFunc := { fid := 13,mode := .scp,nparams := 1,nboxes := 1,clr := [],results := [.box 2 0 4 true],body :=
 (.seq (.region [ .o 2 (.allocF 0 [.int .i64 0,.str [],.int .i64 0,.int .i64 0]) []] none []) (.seq (.seq (.region [ .o 3 .move [.t 0], .o 4 .nilCheck [.t 3],
 .o 5 (.fieldAddr 1) [.T 4], .o 6 (.load false 1 false) [.T 5], .o 7 (.bin .lss) [.t 6,.const (.int .i64 0)], .o 8 .move [.t 7], .z 9 .move [.t 0] 8,
 .z 10 .nilCheck [.t 9] 8, .z 11 (.fieldAddr 1) [.T 10] 8, .z 12 (.load false 1 false) [.T 11] 8, .z 13 .move [.t 0] 8, .z 14 .nilCheck [.t 13] 8,
 .z 15 (.fieldAddr 0) [.T 14] 8, .z 16 (.load false 1 false) [.T 15] 8, .z 17 (.len .sl) [.T 16] 8, .z 18 (.bin .geq) [.t 12,.t 17] 8,
 .o 19 .pick [.t 8,.const (.bool true),.t 18]] (some []) [3,6,7,8,9,10,11,12,13,14,15,16,17,18]) (.cond (.T 19) [0] (.seq (.region [
 .o 20 (.build [.int .i64 0,.str [],.int .i64 0,.int .i64 0] [(0,1)]) [.const (.int .i64 0)], .n (.storeF 0 4) [.t 2,.t 20]] none [20]) .ret) [] .skip)) (.seq
 (.region [ .o 21 .move [.t 0], .o 22 .nilCheck [.t 21], .o 23 (.fieldAddr 0) [.T 22], .o 24 (.load false 1 false) [.T 23], .o 25 .move [.t 0],
 .o 26 .nilCheck [.t 25], .o 27 (.fieldAddr 1) [.T 26], .o 28 (.load false 1 false) [.T 27], .o 29 (.indexAddr 4) [.T 24,.t 28],
 .o 30 (.load true 4 false) [.T 29], .n (.storeF 0 4) [.t 2,.t 30]] (some []) [0,21,25,28,30]) .ret))) }

/-- (*runrig/runrigref3.reader).is -/

def s14 : SFunc := { fid := 14,mode := .scp,nparams := 2,nboxes := 1,clr := [],results := [.tmp 4 false],body :=
 (.seq (.region [ .o 4 .move [.const (.bool false)]] none [4]) (.seq (.region [ .o 7 .move [.t 0], .o 8 (.call 13) [.t 7],
 .o 5 (.allocF 0 [.int .i64 0,.str [],.int .i64 0,.int .i64 0]) [], .n (.storeF 0 4) [.t 5,.t 8]] none [7,8]) (.seq (.region [
 .o 6 .move [.const (.int .i64 4)]] none []) (.seq (.seq (.region [ .o 9 .move [.t 1], .o 10 .index [.t 9,.const (.int .i64 0)],
 .o 11 (.bin .geq) [.t 10,.const (.int .u8 97)], .o 12 .move [.t 11], .y 13 .move [.t 1] 12, .y 14 .index [.t 13,.const (.int .i64 0)] 12,
 .y 15 (.bin .leq) [.t 14,.const (.int .u8 122)] 12, .o 16 .pick [.t 12,.t 15,.const (.bool false)]] none [9,10,11,12,13,14,15]) (.cond (.T 16) [6] (.region [
 .o 6 .move [.const (.int .i64 3)]] none []) [] .skip)) (.seq (.region [ .o 17 .move [.t 0], .o 18 (.call 12) [.t 17], .o 19 .move [.t 18],
 .y 20 (.fieldAddr 0) [.t 5] 19, .y 21 (.loadF 0 false 1 false) [.t 20] 19, .y 22 .move [.t 6] 19, .y 23 (.bin .eql) [.t 21,.t 22] 19,
 .o 24 .pick [.t 19,.t 23,.const (.bool false)], .o 25 .move [.t 24], .y 26 (.fieldAddr 1) [.t 5] 25, .y 27 (.loadF 0 false 1 false) [.t 26] 25,
 .y 28 .move [.t 1] 25, .y 29 (.bin .eql) [.t 27,.t 28] 25, .o 30 .pick [.t 25,.t 29,.const (.bool false)],
 .o 4 .move [.t 30]] none [0,1,5,6,17,18,19,20,21,22,23,24,25,26,27,28,29,30]) .ret))))) }

/-- (*runrig/runrigref3.reader).fail -/

def s15 : SFunc := { fid := 15,mode := .scp,nparams := 2,nboxes := 0,clr := [],results := [],body :=
 (.seq (.region [ .o 4 .move [.t 0], .o 5 (.call 12) [.t 4]] none [4]) (.cond (.T 5) [] (.region [ .o 6 .move [.t 0], .o 7 .move [.t 1], .o 8 .move [.t 0],
 .o 9 (.call 13) [.t 8], .o 10 (.field 3 1 false) [.t 9], .o 11 (.build [.int .i64 0,.int .i64 0] [(0,1),(1,1)]) [.t 7,.t 10], .o 12 .nilCheck [.t 6],
 .o 13 (.fieldAddr 3) [.T 12], .n (.store 2) [.T 13,.t 11]] none [0,1,6,7,8,9,10,11]) [0,1] .skip)) }

/-- (*runrig/runrigref3.reader).record -/
def s16_l0 : SCode :=
 (.seq (.seq (.region [ .o 13 .move [.t 0], .o 14 (.call 12) [.t 13], .o 15 .move [.t 14], .y 16 .move [.t 0] 15,
 .y 17 (.call 14) [.t 16,.const (.str [125])] 15, .y 18 (.un .not) [.t 17] 15, .o 19 .pick [.t 15,.t 18,.const (.bool false)]] none [13,14,15,16,17,18])
 (.cond (.T 19) [] .skip [] (.exit 0))) (.block 1 (.seq (.seq (.region [ .o 20 .move [.t 0], .o 21 (.call 13) [.t 20], .o 22 (.field 0 1 false) [.t 21],
 .o 23 (.bin .eql) [.t 22,.const (.int .i64 1)], .o 24 .move [.t 23], .y 25 (.fieldAddr 1) [.t 3] 24, .y 26 (.loadF 1 false 1 false) [.t 25] 24,
 .y 27 (.len .sl) [.T 26] 24, .y 28 (.bin .eql) [.t 27,.const (.int .i64 8)] 24,
 .o 29 .pick [.t 24,.t 28,.const (.bool false)]] none [20,21,22,23,24,25,26,27,28]) (.cond (.T 29) [] (.seq (.region [ .o 30 .move [.t 0],
 .o 31 (.call 15) [.t 30,.const (.int .i64 4)]] none [30,31]) (.exit 0)) [] .skip)) (.seq (.region [ .o 32 (.fieldAddr 1) [.t 3],
 .o 33 (.loadF 1 false 1 true) [.t 32], .o 34 .move [.t 0], .o 35 (.call 17) [.t 34], .o 36 (.lit 4 1 [.str [],.str [],.int .i64 0,.int .i64 0] [0]) [.t 35],
 .o 37 (.append 4 48) [.T 33,.T 36], .o 38 (.fieldAddr 1) [.t 3], .n (.storeF 1 1) [.t 38,.T 37]] (some []) [32,34,35,38]) (.region [ .o 39 .move [.t 0],
 .o 40 (.call 18) [.t 39,.const (.str [59])]] none [39,40])))))
def s16 : SFunc := { fid := 16,mode := .scp,nparams := 1,nboxes := 2,clr := [],results := [.box 2 0 3 true],body :=
 (.seq (.region [ .o 2 (.allocF 0 [.str [],.nilSl,.int .i64 0]) []] none []) (.seq (.region [ .o 4 .move [.t 0], .o 5 (.call 13) [.t 4],
 .o 6 (.field 3 1 false) [.t 5], .o 7 (.build [.str [],.nilSl,.int .i64 0] [(2,1)]) [.t 6], .o 3 (.allocF 1 [.str [],.nilSl,.int .i64 0]) [],
 .n (.storeF 1 3) [.t 3,.T 7]] none [4,5,6]) (.seq (.region [ .o 8 .move [.t 0], .o 9 (.call 29) [.t 8], .o 10 (.fieldAddr 0) [.t 3],
 .n (.storeF 1 1) [.t 10,.t 9]] none [8,9,10]) (.seq (.region [ .o 11 .move [.t 0], .o 12 (.call 18) [.t 11,.const (.str [123])]] none [11,12]) (.seq (.block 0
 (.loop s16_l0)) (.seq (.region [ .o 41 .move [.t 0], .o 42 (.call 18) [.t 41,.const (.str [125])]] none [0,41,42]) (.seq (.region [
 .o 43 (.loadF 1 true 3 false) [.t 3], .n (.storeF 0 3) [.t 2,.T 43]] none [3]) .ret))))))) }

/-- (*runrig/runrigref3.reader).param -/

def s17 : SFunc := { fid := 17,mode := .scp,nparams := 1,nboxes := 2,clr := [],results := [.box 2 0 4 true],body :=
 (.seq (.region [ .o 2 (.allocF 0 [.str [],.str [],.int .i64 0,.int .i64 0]) []] none []) (.seq (.region [ .o 4 .move [.t 0], .o 5 (.call 13) [.t 4],
 .o 6 (.field 3 1 false) [.t 5], .o 7 (.build [.str [],.str [],.int .i64 0,.int .i64 0] [(3,1)]) [.t 6],
 .o 3 (.allocF 1 [.str [],.str [],.int .i64 0,.int .i64 0]) [], .n (.storeF 1 4) [.t 3,.t 7]] none [4,5,6,7]) (.seq (.region [ .o 8 .move [.t 0],
 .o 9 (.call 29) [.t 8], .o 10 (.fieldAddr 0) [.t 3], .n (.storeF 1 1) [.t 10,.t 9]] none [8,9,10]) (.seq (.region [ .o 11 .move [.t 0],
 .o 12 (.call 18) [.t 11,.const (.str [58])]] none [11,12]) (.seq (.region [ .o 13 .move [.t 0], .o 14 (.call 30) [.t 13], .o 15 (.fieldAddr 1) [.t 3],
 .n (.storeF 1 2) [.t 15,.t 14]] none [0,13,14,15]) (.seq (.region [ .o 16 (.loadF 1 true 4 false) [.t 3], .n (.storeF 0 4) [.t 2,.t 16]] none [3,16])
 .ret)))))) }

/-- (*runrig/runrigref3.reader).take -/

def s18 : SFunc := { fid := 18,mode := .scp,nparams := 2,nboxes := 0,clr := [],results := [],body :=
 (.seq (.seq (.region [ .o 4 .move [.t 0], .o 5 .move [.t 1], .o 6 (.call 14) [.t 4,.t 5], .o 7 (.un .not) [.t 6]] none [1,4,5,6]) (.cond (.T 7) [] (.seq
 (.region [ .o 8 .move [.t 0], .o 9 (.call 15) [.t 8,.const (.int .i64 2)]] none [0,8,9]) .ret) [] .skip)) (.region [ .o 10 .move [.t 0],
 .o 11 .nilCheck [.t 10], .o 12 (.fieldAddr 1) [.T 11], .o 13 (.load false 1 false) [.T 12], .o 14 (.bin .add) [.t 13,.const (.int .i64 1)],
 .o 15 .nilCheck [.t 10], .o 16 (.fieldAddr 1) [.T 15], .n (.store 1) [.T 16,.t 14]] none [0,10,13,14])) }

/-- (*runrig/runrigref3.reader).function -/
def s19_l0 : SCode :=
 (.seq (.seq (.region [ .o 13 .move [.t 0], .o 14 (.call 12) [.t 13], .o 15 .move [.t 14], .y 16 .move [.t 0] 15,
 .y 17 (.call 14) [.t 16,.const (.str [41])] 15, .y 18 (.un .not) [.t 17] 15, .o 19 .pick [.t 15,.t 18,.const (.bool false)]] none [13,14,15,16,17,18])
 (.cond (.T 19) [] .skip [] (.exit 0))) (.block 1 (.seq (.seq (.region [ .o 20 .move [.t 0], .o 21 (.call 13) [.t 20], .o 22 (.field 0 1 false) [.t 21],
 .o 23 (.bin .eql) [.t 22,.const (.int .i64 1)], .o 24 .move [.t 23], .y 25 (.fieldAddr 1) [.t 3] 24, .y 26 (.loadF 1 false 1 false) [.t 25] 24,
 .y 27 (.len .sl) [.T 26] 24, .y 28 (.bin .eql) [.t 27,.const (.int .i64 6)] 24,
 .o 29 .pick [.t 24,.t 28,.const (.bool false)]] none [20,21,22,23,24,25,26,27,28]) (.cond (.T 29) [] (.seq (.region [ .o 30 .move [.t 0],
 .o 31 (.call 15) [.t 30,.const (.int .i64 4)]] none [30,31]) (.exit 0)) [] .skip)) (.seq (.region [ .o 32 (.fieldAddr 1) [.t 3],
 .o 33 (.loadF 1 false 1 true) [.t 32], .o 34 .move [.t 0], .o 35 (.call 17) [.t 34], .o 36 (.lit 4 1 [.str [],.str [],.int .i64 0,.int .i64 0] [0]) [.t 35],
 .o 37 (.append 4 48) [.T 33,.T 36], .o 38 (.fieldAddr 1) [.t 3], .n (.storeF 1 1) [.t 38,.T 37]] (some []) [32,34,35,38]) (.seq (.region [ .o 39 .move [.t 0],
 .o 40 (.call 14) [.t 39,.const (.str [41])], .o 41 (.un .not) [.t 40]] none [39,40]) (.cond (.T 41) [] (.seq (.region [ .o 42 .move [.t 0],
 .o 43 (.call 18) [.t 42,.const (.str [44])]] none [42,43]) (.seq (.region [ .o 44 .move [.t 0], .o 45 (.call 14) [.t 44,.const (.str [41])]] none [44])
 (.cond (.T 45) [] (.region [ .o 46 .move [.t 0], .o 47 (.call 15) [.t 46,.const (.int .i64 2)]] none [46,47]) [] .skip))) [] .skip))))))
def s19 : SFunc := { fid := 19,mode := .scp,nparams := 1,nboxes := 2,clr := [],results := [.box 2 0 7 true],body :=
 (.seq (.region [ .o 2 (.allocF 0 [.str [],.nilSl,.bool false,.str [],.int .i64 0,.nilSl,.int .i64 0]) []] none []) (.seq (.region [ .o 4 .move [.t 0],
 .o 5 (.call 13) [.t 4], .o 6 (.field 3 1 false) [.t 5], .o 7 (.build [.str [],.nilSl,.bool false,.str [],.int .i64 0,.nilSl,.int .i64 0] [(6,1)]) [.t 6],
 .o 3 (.allocF 1 [.str [],.nilSl,.bool false,.str [],.int .i64 0,.nilSl,.int .i64 0]) [], .n (.storeF 1 7) [.t 3,.T 7]] none [4,5,6]) (.seq (.region [
 .o 8 .move [.t 0], .o 9 (.call 29) [.t 8], .o 10 (.fieldAddr 0) [.t 3], .n (.storeF 1 1) [.t 10,.t 9]] none [8,9,10]) (.seq (.region [ .o 11 .move [.t 0],
 .o 12 (.call 18) [.t 11,.const (.str [40])]] none [11,12]) (.seq (.block 0 (.loop s19_l0)) (.seq (.region [ .o 48 .move [.t 0],
 .o 49 (.call 18) [.t 48,.const (.str [41])]] none [48,49]) (.seq (.seq (.region [ .o 50 .move [.t 0], .o 51 (.call 14) [.t 50,.const (.str [58])]] none [50])
 (.cond (.T 51) [] (.seq (.region [ .o 52 .move [.t 0], .o 53 .nilCheck [.t 52], .o 54 (.fieldAddr 1) [.T 53], .o 55 (.load false 1 false) [.T 54],
 .o 56 (.bin .add) [.t 55,.const (.int .i64 1)], .o 57 .nilCheck [.t 52], .o 58 (.fieldAddr 1) [.T 57], .n (.store 1) [.T 58,.t 56]] none [52,55,56]) (.seq
 (.region [ .o 59 (.fieldAddr 2) [.t 3], .n (.storeF 1 1) [.t 59,.const (.bool true)]] none [59]) (.region [ .o 60 .move [.t 0], .o 61 (.call 30) [.t 60],
 .o 62 (.fieldAddr 3) [.t 3], .n (.storeF 1 2) [.t 62,.t 61]] none [60,61,62]))) [] .skip)) (.seq (.region [ .o 63 .move [.t 0], .o 64 (.call 31) [.t 63],
 .o 65 (.fieldAddr 5) [.t 3], .n (.storeF 1 1) [.t 65,.T 64]] none [0,63,65]) (.seq (.region [ .o 66 (.loadF 1 true 7 false) [.t 3],
 .n (.storeF 0 7) [.t 2,.T 66]] none [3]) .ret))))))))) }

/-- runrig/heads.Make -/

def s20 : SFunc := { fid := 20,mode := .pure,nparams := 1,nboxes := 4,clr := [],results := [.box 2 1 4 true,.box 3 2 2 true],body :=
 (.seq (.region [ .o 1 (.boxF 0 3) [.T 0], .o 2 (.allocF 1 [.nilSl,.nilSl,.nilSl,.int .i64 0]) [], .o 3 (.allocF 2 [.int .i64 0,.int .i64 0]) []] none [])
 (.seq (.region [ .o 6 (.build [.nilSl,.int .i64 0,.int .i64 0] []) [], .o 7 (.box 3) [.T 6], .o 4 .move [.t 7]] none [7]) (.seq (.region [ .o 8 .move [.t 4],
 .o 9 (.fieldAddr 0) [.t 1], .o 10 (.loadF 0 false 1 false) [.t 9], .o 11 (.call 32) [.t 8,.T 10], .o 12 .move [.t 4], .o 13 (.fieldAddr 1) [.t 1],
 .o 14 (.loadF 0 false 1 false) [.t 13], .o 15 (.call 33) [.t 12,.T 14], .o 16 .move [.t 4], .o 17 (.fieldAddr 2) [.t 1],
 .o 18 (.loadF 0 false 1 false) [.t 17], .o 19 (.call 34) [.t 16,.T 18],
 .o 20 (.build [.nilSl,.nilSl,.nilSl,.int .i64 0] [(0,1),(1,1),(2,1)]) [.T 11,.T 15,.T 19], .o 5 (.allocF 3 [.nilSl,.nilSl,.nilSl,.int .i64 0]) [],
 .n (.storeF 3 4) [.t 5,.T 20]] (some []) [1,8,9,12,13,16,17]) (.seq (.region [ .o 21 (.fieldAddr 2) [.t 5], .o 22 (.loadF 3 false 1 false) [.t 21],
 .o 23 (.call 35) [.T 22,.const (.fn 36 [] [])], .o 24 (.fieldAddr 3) [.t 5], .n (.storeF 3 1) [.t 24,.t 23]] none [21,23,24]) (.seq (.seq (.region [
 .o 25 (.fieldAddr 3) [.t 5], .o 26 (.loadF 3 false 1 false) [.t 25], .o 27 (.bin .lss) [.t 26,.const (.int .i64 0)]] none [25,26]) (.cond (.T 27) []
 (.region [ .o 28 .move [.t 4], .o 29 (.call 37) [.t 28,.const (.int .i64 0)]] none [28,29]) [] .skip)) (.seq (.seq (.region [ .o 30 .move [.t 4],
 .o 31 .nilCheck [.t 30], .o 32 (.fieldAddr 1) [.T 31], .o 33 (.fieldAddr 0) [.T 32], .o 34 (.load false 1 false) [.T 33],
 .o 35 (.bin .neq) [.t 34,.const (.int .i64 0)]] none [30,34]) (.cond (.T 35) [5] (.seq (.region [ .o 36 (.build [.nilSl,.nilSl,.nilSl,.int .i64 0] []) [],
 .o 37 .move [.t 4], .o 38 .nilCheck [.t 37], .o 39 (.fieldAddr 1) [.T 38], .o 40 (.load true 2 false) [.T 39], .n (.storeF 1 4) [.t 2,.T 36],
 .n (.storeF 2 2) [.t 3,.t 40]] (some []) [4,37,40]) .ret) [4] .skip)) (.seq (.region [ .o 41 (.loadF 3 true 4 false) [.t 5],
 .o 42 (.build [.int .i64 0,.int .i64 0] []) [], .n (.storeF 1 4) [.t 2,.T 41], .n (.storeF 2 2) [.t 3,.t 42]] none [5,42]) .ret))))))) }

/-- (*runrig/typed.checker).body -/

def s21 : SFunc := { fid := 21,mode := .scp,nparams := 3,nboxes := 3,clr := [],results := [.box 6 2 3 true],body :=
 (.seq (.region [ .o 4 (.boxF 0 7) [.T 1], .o 5 (.boxF 1 6) [.T 2], .o 6 (.allocF 2 [.nilSl,.nilSl,.int .i64 0]) []] none []) (.seq (.region [
 .o 8 .move [.t 0], .o 9 .move [.t 0], .o 10 (.loadF 1 true 6 false) [.t 5], .o 11 (.fieldAddr 1) [.t 5], .o 12 (.loadF 1 false 1 false) [.t 11],
 .o 13 (.call 38) [.T 12], .o 14 .nilCheck [.t 8], .o 15 (.fieldAddr 5) [.T 14], .n (.store 6) [.T 15,.T 10], .o 16 .nilCheck [.t 9],
 .o 17 (.fieldAddr 11) [.T 16], .n (.store 1) [.T 17,.T 13]] (some []) [5,8,9,11]) (.seq (.region [ .o 18 .move [.t 0], .o 19 (.fieldAddr 5) [.t 4],
 .o 20 (.loadF 0 false 1 false) [.t 19], .o 21 (.call 39) [.t 18,.T 20], .o 7 .move [.T 21]] none [18,19]) (.seq (.region [ .o 22 .move [.t 0],
 .o 23 .nilCheck [.t 22], .o 24 (.fieldAddr 11) [.T 23], .o 25 (.load false 1 false) [.T 24], .o 26 .move [.T 7], .o 27 (.fieldAddr 6) [.t 4],
 .o 28 (.loadF 0 false 1 false) [.t 27], .o 29 (.build [.nilSl,.nilSl,.int .i64 0] [(0,1),(1,1),(2,1)]) [.T 25,.T 26,.t 28],
 .n (.storeF 2 3) [.t 6,.T 29]] (some []) [0,4,22,27,28]) .ret)))) }

/-- (*runrig/typed.checker).failed -/

def s22 : SFunc := { fid := 22,mode := .scp,nparams := 1,nboxes := 0,clr := [],results := [.tmp 2 false],body :=
 (.seq (.region [ .o 2 .move [.const (.bool false)]] none [2]) (.seq (.region [ .o 3 .move [.t 0], .o 4 .nilCheck [.t 3], .o 5 (.fieldAddr 12) [.T 4],
 .o 6 (.fieldAddr 0) [.T 5], .o 7 (.load false 1 false) [.T 6], .o 8 (.bin .neq) [.t 7,.const (.int .i64 0)], .o 2 .move [.t 8]] none [0,3,7,8]) .ret)) }

/-- runrig/runrigref7.SameHeads -/
def s23_l0 : SCode :=
 (.seq (.seq (.region [ .o 38 .move [.t 5], .o 39 (.fieldAddr 0) [.t 2], .o 40 (.loadF 0 false 1 false) [.t 39], .o 41 (.len .sl) [.T 40],
 .o 42 (.bin .lss) [.t 38,.t 41]] none [38,39,41]) (.cond (.T 42) [] .skip [5] (.exit 0))) (.seq (.block 1 (.seq (.region [ .o 45 (.fieldAddr 0) [.t 2],
 .o 46 (.loadF 0 false 1 false) [.t 45], .o 47 .move [.t 5], .o 48 (.indexAddr 2) [.T 46,.t 47], .o 49 (.fieldAddr 0) [.T 48],
 .o 50 (.load false 1 false) [.T 49], .o 51 (.fieldAddr 0) [.t 3], .o 52 (.loadF 1 false 1 false) [.t 51], .o 53 .move [.t 5],
 .o 54 (.indexAddr 2) [.T 52,.t 53], .o 55 (.fieldAddr 0) [.T 54], .o 56 (.load false 1 false) [.T 55], .o 57 (.bin .neq) [.t 50,.t 56], .o 58 .move [.t 57],
 .z 59 (.fieldAddr 0) [.t 2] 58, .z 60 (.loadF 0 false 1 false) [.t 59] 58, .z 61 .move [.t 5] 58, .z 62 (.indexAddr 2) [.T 60,.t 61] 58,
 .z 63 (.fieldAddr 1) [.T 62] 58, .z 64 (.load false 1 false) [.T 63] 58, .z 65 (.fieldAddr 0) [.t 3] 58, .z 66 (.loadF 1 false 1 false) [.t 65] 58,
 .z 67 .move [.t 5] 58, .z 68 (.indexAddr 2) [.T 66,.t 67] 58, .z 69 (.fieldAddr 1) [.T 68] 58, .z 70 (.load false 1 false) [.T 69] 58,
 .z 71 (.call 24) [.T 64,.T 70] 58, .z 72 (.un .not) [.t 71] 58,
 .o 73 .pick [.t 58,.const (.bool true),.t 72]] (some []) [45,47,50,51,53,56,57,58,59,60,61,62,63,64,65,66,67,68,69,70,71,72]) (.cond (.T 73) [2,3,5] (.seq
 (.region [ .o 4 .move [.const (.bool false)]] none []) .ret) [] .skip))) (.region [ .o 43 .move [.t 5], .o 44 (.bin .add) [.t 43,.const (.int .i64 1)],
 .o 5 .move [.t 44]] none [43,44])))
def s23_l1 : SCode :=
 (.seq (.seq (.region [ .o 74 .move [.t 6], .o 75 (.fieldAddr 2) [.t 2], .o 76 (.loadF 0 false 1 false) [.t 75], .o 77 (.len .sl) [.T 76],
 .o 78 (.bin .lss) [.t 74,.t 77]] none [74,75,77]) (.cond (.T 78) [] .skip [2,3,6] (.exit 2))) (.seq (.block 3 (.seq (.region [ .o 81 (.fieldAddr 2) [.t 2],
 .o 82 (.loadF 0 false 1 false) [.t 81], .o 83 .move [.t 6], .o 84 (.indexAddr 6) [.T 82,.t 83], .o 85 (.fieldAddr 0) [.T 84],
 .o 86 (.load false 1 false) [.T 85], .o 87 (.fieldAddr 2) [.t 3], .o 88 (.loadF 1 false 1 false) [.t 87], .o 89 .move [.t 6],
 .o 90 (.indexAddr 6) [.T 88,.t 89], .o 91 (.fieldAddr 0) [.T 90], .o 92 (.load false 1 false) [.T 91], .o 93 (.bin .neq) [.t 86,.t 92], .o 94 .move [.t 93],
 .z 95 (.fieldAddr 2) [.t 2] 94, .z 96 (.loadF 0 false 1 false) [.t 95] 94, .z 97 .move [.t 6] 94, .z 98 (.indexAddr 6) [.T 96,.t 97] 94,
 .z 99 (.fieldAddr 2) [.T 98] 94, .z 100 (.load false 1 false) [.T 99] 94, .z 101 (.fieldAddr 2) [.t 3] 94, .z 102 (.loadF 1 false 1 false) [.t 101] 94,
 .z 103 .move [.t 6] 94, .z 104 (.indexAddr 6) [.T 102,.t 103] 94, .z 105 (.fieldAddr 2) [.T 104] 94, .z 106 (.load false 1 false) [.T 105] 94,
 .z 107 (.eqv (.sc .bool) true) [.t 100,.t 106] 94, .o 108 .pick [.t 94,.const (.bool true),.t 107], .o 109 .move [.t 108], .z 110 (.fieldAddr 2) [.t 2] 109,
 .z 111 (.loadF 0 false 1 false) [.t 110] 109, .z 112 .move [.t 6] 109, .z 113 (.indexAddr 6) [.T 111,.t 112] 109, .z 114 (.fieldAddr 3) [.T 113] 109,
 .z 115 (.load true 3 false) [.T 114] 109, .z 116 (.fieldAddr 2) [.t 3] 109, .z 117 (.loadF 1 false 1 false) [.t 116] 109, .z 118 .move [.t 6] 109,
 .z 119 (.indexAddr 6) [.T 117,.t 118] 109, .z 120 (.fieldAddr 3) [.T 119] 109, .z 121 (.load true 3 false) [.T 120] 109,
 .z 122 (.eqv (.flat [.int,.int,.int]) true) [.t 115,.t 121] 109, .o 123 .pick [.t 109,.const (.bool true),.t 122], .o 124 .move [.t 123],
 .z 125 (.fieldAddr 2) [.t 2] 124, .z 126 (.loadF 0 false 1 false) [.t 125] 124, .z 127 .move [.t 6] 124, .z 128 (.indexAddr 6) [.T 126,.t 127] 124,
 .z 129 (.fieldAddr 1) [.T 128] 124, .z 130 (.load false 1 false) [.T 129] 124, .z 131 (.fieldAddr 2) [.t 3] 124, .z 132 (.loadF 1 false 1 false) [.t 131] 124,
 .z 133 .move [.t 6] 124, .z 134 (.indexAddr 6) [.T 132,.t 133] 124, .z 135 (.fieldAddr 1) [.T 134] 124, .z 136 (.load false 1 false) [.T 135] 124,
 .z 137 (.call 24) [.T 130,.T 136] 124, .z 138 (.un .not) [.t 137] 124,
 .o 139 .pick [.t 124,.const (.bool true),.t 138]] (some []) [81,83,86,87,89,92,93,94,95,96,97,98,99,100,101,102,103,104,105,106,107,108,109,110,111,112,113,114,115,116,117,118,119,120,121,122,123,124,125,126,127,128,129,130,131,132,133,134,135,136,137,138])
 (.cond (.T 139) [2,3,6] (.seq (.region [ .o 4 .move [.const (.bool false)]] none []) .ret) [] .skip))) (.region [ .o 79 .move [.t 6],
 .o 80 (.bin .add) [.t 79,.const (.int .i64 1)], .o 6 .move [.t 80]] none [79,80])))
def s23 : SFunc := { fid := 23,mode := .pure,nparams := 2,nboxes := 2,clr := [],results := [.tmp 4 false],body :=
 (.seq (.region [ .o 2 (.boxF 0 4) [.T 0], .o 3 (.boxF 1 4) [.T 1], .o 4 .move [.const (.bool false)]] none [4]) (.seq (.seq (.region [
 .o 7 (.fieldAddr 3) [.t 2], .o 8 (.loadF 0 false 1 false) [.t 7], .o 9 (.fieldAddr 3) [.t 3], .o 10 (.loadF 1 false 1 false) [.t 9],
 .o 11 (.bin .neq) [.t 8,.t 10], .o 12 .move [.t 11], .z 13 (.fieldAddr 0) [.t 2] 12, .z 14 (.loadF 0 false 1 false) [.t 13] 12, .z 15 (.len .sl) [.T 14] 12,
 .z 16 (.fieldAddr 0) [.t 3] 12, .z 17 (.loadF 1 false 1 false) [.t 16] 12, .z 18 (.len .sl) [.T 17] 12, .z 19 (.bin .neq) [.t 15,.t 18] 12,
 .o 20 .pick [.t 12,.const (.bool true),.t 19], .o 21 .move [.t 20], .z 22 (.fieldAddr 2) [.t 2] 21, .z 23 (.loadF 0 false 1 false) [.t 22] 21,
 .z 24 (.len .sl) [.T 23] 21, .z 25 (.fieldAddr 2) [.t 3] 21, .z 26 (.loadF 1 false 1 false) [.t 25] 21, .z 27 (.len .sl) [.T 26] 21,
 .z 28 (.bin .neq) [.t 24,.t 27] 21, .o 29 .pick [.t 21,.const (.bool true),.t 28], .o 30 .move [.t 29], .z 31 (.fieldAddr 1) [.t 2] 30,
 .z 32 (.loadF 0 false 1 false) [.t 31] 30, .z 33 (.fieldAddr 1) [.t 3] 30, .z 34 (.loadF 1 false 1 false) [.t 33] 30, .z 35 (.call 24) [.T 32,.T 34] 30,
 .z 36 (.un .not) [.t 35] 30,
 .o 37 .pick [.t 30,.const (.bool true),.t 36]] none [7,8,9,10,11,12,13,14,15,16,17,18,19,20,21,22,23,24,25,26,27,28,29,30,31,32,33,34,35,36])
 (.cond (.T 37) [2,3] (.seq (.region [ .o 4 .move [.const (.bool false)]] none []) .ret) [] .skip)) (.seq (.seq (.region [
 .o 5 .move [.const (.int .i64 0)]] none []) (.block 0 (.loop s23_l0))) (.seq (.seq (.region [ .o 6 .move [.const (.int .i64 0)]] none []) (.block 2
 (.loop s23_l1))) (.seq (.region [ .o 4 .move [.const (.bool true)]] none []) .ret))))) }

/-- runrig/runrigref7.SameFields -/
def s24_l0 : SCode :=
 (.seq (.seq (.region [ .o 11 .move [.t 5], .o 12 .move [.t 0], .o 13 (.len .sl) [.T 12], .o 14 (.bin .lss) [.t 11,.t 13]] none [11,13]) (.cond (.T 14) []
 .skip [0,1,5] (.exit 0))) (.seq (.block 1 (.seq (.region [ .o 17 .move [.t 0], .o 18 .move [.t 5], .o 19 (.indexAddr 4) [.T 17,.t 18],
 .o 20 (.load true 4 false) [.T 19], .o 21 .move [.t 1], .o 22 .move [.t 5], .o 23 (.indexAddr 4) [.T 21,.t 22], .o 24 (.load true 4 false) [.T 23],
 .o 25 (.eqv (.flat [.str,.int,.int,.int]) true) [.t 20,.t 24]] (some []) [18,20,22,24]) (.cond (.T 25) [0,1,5] (.seq (.region [
 .o 4 .move [.const (.bool false)]] none []) .ret) [] .skip))) (.region [ .o 15 .move [.t 5], .o 16 (.bin .add) [.t 15,.const (.int .i64 1)],
 .o 5 .move [.t 16]] none [15,16])))
def s24 : SFunc := { fid := 24,mode := .pure,nparams := 2,nboxes := 0,clr := [],results := [.tmp 4 false],body :=
 (.seq (.region [ .o 4 .move [.const (.bool false)]] none [4]) (.seq (.seq (.region [ .o 6 .move [.t 0], .o 7 (.len .sl) [.T 6], .o 8 .move [.t 1],
 .o 9 (.len .sl) [.T 8], .o 10 (.bin .neq) [.t 7,.t 9]] none [7,9]) (.cond (.T 10) [0,1] (.seq (.region [ .o 4 .move [.const (.bool false)]] none []) .ret) []
 .skip)) (.seq (.seq (.region [ .o 5 .move [.const (.int .i64 0)]] none []) (.block 0 (.loop s24_l0))) (.seq (.region [
 .o 4 .move [.const (.bool true)]] none []) .ret)))) }

/-- runrig/runrigref3.SameStmts -/
def s25_l0 : SCode :=
 (.seq (.seq (.region [ .o 11 .move [.t 5], .o 12 .move [.t 0], .o 13 (.len .sl) [.T 12], .o 14 (.bin .lss) [.t 11,.t 13]] none [11,13]) (.cond (.T 14) []
 .skip [0,1,5] (.exit 0))) (.seq (.block 1 (.seq (.region [ .o 17 .move [.t 0], .o 18 .move [.t 5], .o 19 (.indexAddr 9) [.T 17,.t 18],
 .o 20 (.load true 9 false) [.T 19], .o 21 .move [.t 1], .o 22 .move [.t 5], .o 23 (.indexAddr 9) [.T 21,.t 22], .o 24 (.load true 9 false) [.T 23],
 .o 25 (.call 40) [.T 20,.T 24], .o 26 (.un .not) [.t 25]] (some []) [18,22,25]) (.cond (.T 26) [0,1,5] (.seq (.region [
 .o 4 .move [.const (.bool false)]] none []) .ret) [] .skip))) (.region [ .o 15 .move [.t 5], .o 16 (.bin .add) [.t 15,.const (.int .i64 1)],
 .o 5 .move [.t 16]] none [15,16])))
def s25 : SFunc := { fid := 25,mode := .pure,nparams := 2,nboxes := 0,clr := [],results := [.tmp 4 false],body :=
 (.seq (.region [ .o 4 .move [.const (.bool false)]] none [4]) (.seq (.seq (.region [ .o 6 .move [.t 0], .o 7 (.len .sl) [.T 6], .o 8 .move [.t 1],
 .o 9 (.len .sl) [.T 8], .o 10 (.bin .neq) [.t 7,.t 9]] none [7,9]) (.cond (.T 10) [0,1] (.seq (.region [ .o 4 .move [.const (.bool false)]] none []) .ret) []
 .skip)) (.seq (.seq (.region [ .o 5 .move [.const (.int .i64 0)]] none []) (.block 0 (.loop s25_l0))) (.seq (.region [
 .o 4 .move [.const (.bool true)]] none []) .ret)))) }

/-- runrig/runriglaw8.stmts -/
def s26_l0 : SCode :=
 (.seq (.seq (.region [ .o 6 .move [.t 5], .o 7 .move [.t 0], .o 8 (.len .sl) [.T 7], .o 9 (.bin .lss) [.t 6,.t 8]] none [6,8]) (.cond (.T 9) [] .skip [0,1,5]
 (.exit 0))) (.seq (.block 1 (.seq (.region [ .o 12 .move [.t 0], .o 13 .move [.t 5], .o 14 (.indexAddr 9) [.T 12,.t 13], .o 15 (.fieldAddr 7) [.T 14],
 .o 16 (.load false 1 false) [.T 15], .o 17 .move [.t 1], .o 18 .move [.t 5], .o 19 (.indexAddr 9) [.T 17,.t 18], .o 20 (.fieldAddr 7) [.T 19],
 .o 21 (.load false 1 false) [.T 20], .o 22 (.bin .neq) [.t 16,.t 21], .o 23 .move [.t 22], .z 24 .move [.t 0] 23, .z 25 .move [.t 5] 23,
 .z 26 (.indexAddr 9) [.T 24,.t 25] 23, .z 27 (.fieldAddr 4) [.T 26] 23, .z 28 (.load false 1 false) [.T 27] 23, .z 29 .move [.t 1] 23, .z 30 .move [.t 5] 23,
 .z 31 (.indexAddr 9) [.T 29,.t 30] 23, .z 32 (.fieldAddr 4) [.T 31] 23, .z 33 (.load false 1 false) [.T 32] 23, .z 34 (.call 41) [.T 28,.T 33] 23,
 .z 35 (.un .not) [.t 34] 23, .o 36 .pick [.t 23,.const (.bool true),.t 35], .o 37 .move [.t 36], .z 38 .move [.t 0] 37, .z 39 .move [.t 5] 37,
 .z 40 (.indexAddr 9) [.T 38,.t 39] 37, .z 41 (.fieldAddr 5) [.T 40] 37, .z 42 (.load false 1 false) [.T 41] 37, .z 43 .move [.t 1] 37, .z 44 .move [.t 5] 37,
 .z 45 (.indexAddr 9) [.T 43,.t 44] 37, .z 46 (.fieldAddr 5) [.T 45] 37, .z 47 (.load false 1 false) [.T 46] 37, .z 48 (.call 26) [.T 42,.T 47] 37,
 .z 49 (.un .not) [.t 48] 37, .o 50 .pick [.t 37,.const (.bool true),.t 49], .o 51 .move [.t 50], .z 52 .move [.t 0] 51, .z 53 .move [.t 5] 51,
 .z 54 (.indexAddr 9) [.T 52,.t 53] 51, .z 55 (.fieldAddr 6) [.T 54] 51, .z 56 (.load false 1 false) [.T 55] 51, .z 57 .move [.t 1] 51, .z 58 .move [.t 5] 51,
 .z 59 (.indexAddr 9) [.T 57,.t 58] 51, .z 60 (.fieldAddr 6) [.T 59] 51, .z 61 (.load false 1 false) [.T 60] 51, .z 62 (.call 26) [.T 56,.T 61] 51,
 .z 63 (.un .not) [.t 62] 51,
 .o 64 .pick [.t 51,.const (.bool true),.t 63]] (some []) [13,16,18,21,22,23,24,25,26,27,28,29,30,31,32,33,34,35,36,37,38,39,40,41,42,43,44,45,46,47,48,49,50,51,52,53,54,55,56,57,58,59,60,61,62,63])
 (.cond (.T 64) [0,1,5] (.seq (.region [ .o 4 .move [.const (.bool false)]] none []) .ret) [] .skip))) (.region [ .o 10 .move [.t 5],
 .o 11 (.bin .add) [.t 10,.const (.int .i64 1)], .o 5 .move [.t 11]] none [10,11])))
def s26 : SFunc := { fid := 26,mode := .pure,nparams := 2,nboxes := 0,clr := [],results := [.tmp 4 false],body :=
 (.seq (.region [ .o 4 .move [.const (.bool false)]] none [4]) (.seq (.seq (.region [ .o 5 .move [.const (.int .i64 0)]] none []) (.block 0 (.loop s26_l0)))
 (.seq (.region [ .o 4 .move [.const (.bool true)]] none []) .ret))) }

/-- runrig/runrigref2.blank -/
def s27_l0 : SCode :=
 (.seq (.seq (.region [ .o 49 .move [.t 1], .o 50 .move [.t 0], .o 51 (.len .str) [.t 50], .o 52 (.bin .lss) [.t 49,.t 51], .o 53 .move [.t 52],
 .y 54 .move [.t 0] 53, .y 55 .move [.t 1] 53, .y 56 .index [.t 54,.t 55] 53, .y 57 (.bin .neq) [.t 56,.const (.int .u8 10)] 53,
 .o 58 .pick [.t 53,.t 57,.const (.bool false)]] none [49,50,51,52,53,54,55,56,57]) (.cond (.T 58) [] .skip [] (.exit 3))) (.block 4 (.region [
 .o 59 .move [.t 1], .o 60 (.bin .add) [.t 59,.const (.int .i64 1)], .o 1 .move [.t 60]] none [59,60])))
def s27_l1 : SCode :=
 (.seq (.seq (.region [ .o 5 .move [.t 1], .o 6 .move [.t 0], .o 7 (.len .str) [.t 6], .o 8 (.bin .lss) [.t 5,.t 7]] none [5,6,7]) (.cond (.T 8) [] .skip [0]
 (.exit 0))) (.block 1 (.block 2 (.seq (.region [ .o 11 .move [.t 0], .o 12 .move [.t 1], .o 13 .index [.t 11,.t 12],
 .o 14 (.bin .eql) [.t 13,.const (.int .u8 32)], .o 15 .move [.t 14], .z 16 .move [.t 0] 15, .z 17 .move [.t 1] 15, .z 18 .index [.t 16,.t 17] 15,
 .z 19 (.bin .eql) [.t 18,.const (.int .u8 9)] 15, .o 20 .pick [.t 15,.const (.bool true),.t 19], .o 21 .move [.t 20], .z 22 .move [.t 0] 21,
 .z 23 .move [.t 1] 21, .z 24 .index [.t 22,.t 23] 21, .z 25 (.bin .eql) [.t 24,.const (.int .u8 10)] 21, .o 26 .pick [.t 21,.const (.bool true),.t 25],
 .o 27 .move [.t 26], .z 28 .move [.t 0] 27, .z 29 .move [.t 1] 27, .z 30 .index [.t 28,.t 29] 27, .z 31 (.bin .eql) [.t 30,.const (.int .u8 13)] 27,
 .o 32 .pick [.t 27,.const (.bool true),.t 31], .o 10 .move [.t 32]] none [11,12,13,14,15,16,17,18,19,20,21,22,23,24,25,26,27,28,29,30,31,32])
 (.cond (.T 10) [] (.region [ .o 33 .move [.t 1], .o 34 (.bin .add) [.t 33,.const (.int .i64 1)], .o 1 .move [.t 34]] none [33,34]) [] (.seq (.region [
 .o 36 .move [.t 0], .o 37 (.len .str) [.t 36], .o 38 .move [.t 1], .o 39 (.bin .sub) [.t 37,.t 38], .o 40 (.bin .geq) [.t 39,.const (.int .i64 2)],
 .o 41 .move [.t 40], .y 42 .move [.t 0] 41, .y 43 .move [.t 1] 41, .y 44 .move [.t 1] 41, .y 45 (.bin .add) [.t 44,.const (.int .i64 2)] 41,
 .y 46 (.slice true true true false 0) [.t 42,.t 43,.t 45] 41, .y 47 (.bin .eql) [.t 46,.const (.str [47,47])] 41,
 .o 48 .pick [.t 41,.t 47,.const (.bool false)], .o 35 .move [.t 48]] none [36,37,38,39,40,41,42,43,44,45,46,47,48]) (.cond (.T 35) [] (.block 3
 (.loop s27_l0)) [0] (.seq (.region [ .o 9 .move [.t 1], .o 4 .move [.t 9]] none [1,9]) .ret))))))))
def s27 : SFunc := { fid := 27,mode := .pure,nparams := 2,nboxes := 0,clr := [],results := [.tmp 4 false],body :=
 (.seq (.region [ .o 4 .move [.const (.int .i64 0)]] none [4]) (.seq (.block 0 (.loop s27_l1)) (.seq (.region [ .o 61 .move [.t 1],
 .o 4 .move [.t 61]] none [1,61]) .ret))) }

/-- runrig/runrigref2.one -/

def s28 : SFunc := { fid := 28,mode := .pure,nparams := 2,nboxes := 1,clr := [],results := [.box 4 0 4 true,.tmp 5 false],body :=
 (.seq (.region [ .o 4 (.allocF 0 [.int .i64 0,.str [],.int .i64 0,.int .i64 0]) [], .o 5 .move [.const (.int .i64 0)]] none [5]) (.seq (.block 0 (.seq
 (.region [ .o 13 .move [.t 0], .o 14 .move [.t 1], .o 15 .index [.t 13,.t 14], .o 16 (.call 42) [.t 15], .o 12 .move [.t 16]] none [13,14,15,16])
 (.cond (.T 12) [] (.seq (.region [ .o 17 .move [.t 0], .o 18 .move [.t 1], .o 19 (.call 43) [.t 17,.t 18,.const (.bool false)],
 .o 6 .move [.t 19]] none [17,18,19]) (.seq (.region [ .o 20 .move [.t 0], .o 21 .move [.t 1], .o 22 .move [.t 1], .o 23 .move [.t 6],
 .o 24 (.bin .add) [.t 22,.t 23], .o 25 (.slice true true true false 0) [.t 20,.t 21,.t 24], .o 7 .move [.t 25]] none [0,20,21,22,23,24,25]) (.seq (.seq
 (.region [ .o 26 .move [.t 7], .o 27 (.call 44) [.t 26]] none [26]) (.cond (.T 27) [] (.seq (.region [ .o 28 .move [.t 7], .o 29 .move [.t 1],
 .o 30 (.build [.int .i64 0,.str [],.int .i64 0,.int .i64 0] [(0,1),(1,1),(3,1)]) [.const (.int .i64 3),.t 28,.t 29], .o 31 .move [.t 6],
 .n (.storeF 0 4) [.t 4,.t 30], .o 5 .move [.t 31]] none [1,6,7,28,29,30,31]) .ret) [] .skip)) (.seq (.seq (.region [ .o 32 .move [.t 7],
 .o 33 (.call 45) [.t 32]] none [32]) (.cond (.T 33) [] (.seq (.region [ .o 34 .move [.t 7], .o 35 .move [.t 1],
 .o 36 (.build [.int .i64 0,.str [],.int .i64 0,.int .i64 0] [(0,1),(1,1),(3,1)]) [.const (.int .i64 1),.t 34,.t 35], .o 37 .move [.t 6],
 .n (.storeF 0 4) [.t 4,.t 36], .o 5 .move [.t 37]] none [1,6,7,34,35,36,37]) .ret) [1,6,7] .skip)) (.seq (.region [
 .o 38 (.build [.int .i64 0,.str [],.int .i64 0,.int .i64 0] []) [], .n (.storeF 0 4) [.t 4,.t 38], .o 5 .move [.const (.int .i64 0)]] none [38]) .ret))))) []
 (.seq (.region [ .o 40 .move [.t 0], .o 41 .move [.t 1], .o 42 .index [.t 40,.t 41], .o 43 (.call 46) [.t 42], .o 39 .move [.t 43]] none [40,41,42,43])
 (.cond (.T 39) [] (.seq (.region [ .o 44 .move [.t 0], .o 45 .move [.t 1], .o 46 (.call 43) [.t 44,.t 45,.const (.bool true)],
 .o 8 .move [.t 46]] none [44,45,46]) (.seq (.region [ .o 48 .move [.t 0], .o 49 .move [.t 1], .o 50 .move [.t 1], .o 51 .move [.t 8],
 .o 52 (.bin .add) [.t 50,.t 51], .o 53 (.slice true true true false 0) [.t 48,.t 49,.t 52], .o 54 (.call 47) [.t 53], .o 47 .move [.T 54],
 .o 55 (.extract 0) [.t 47], .o 56 (.extract 1) [.T 47], .o 9 .move [.t 55], .o 10 .move [.t 56]] none [48,49,50,51,52,53,55,56]) (.seq (.seq (.region [
 .o 57 .move [.t 10], .o 58 (.un .not) [.t 57], .o 59 .move [.t 58], .z 60 .move [.t 8] 59, .z 61 (.bin .gtr) [.t 60,.const (.int .i64 1)] 59,
 .z 62 .move [.t 61] 59, .y 63 .move [.t 0] 62, .y 64 .move [.t 1] 62, .y 65 .index [.t 63,.t 64] 62, .y 66 (.bin .eql) [.t 65,.const (.int .u8 48)] 62,
 .z 67 .pick [.t 62,.t 66,.const (.bool false)] 59, .o 68 .pick [.t 59,.const (.bool true),.t 67], .o 69 .move [.t 68], .z 70 .move [.t 1] 69,
 .z 71 .move [.t 8] 69, .z 72 (.bin .add) [.t 70,.t 71] 69, .z 73 .move [.t 0] 69, .z 74 (.len .str) [.t 73] 69, .z 75 (.bin .lss) [.t 72,.t 74] 69,
 .z 76 .move [.t 75] 69, .y 77 .move [.t 0] 76, .y 78 .move [.t 1] 76, .y 79 .move [.t 8] 76, .y 80 (.bin .add) [.t 78,.t 79] 76,
 .y 81 .index [.t 77,.t 80] 76, .y 82 (.call 42) [.t 81] 76, .z 83 .pick [.t 76,.t 82,.const (.bool false)] 69,
 .o 84 .pick [.t 69,.const (.bool true),.t 83]] none [0,10,57,58,59,60,61,62,63,64,65,66,67,68,69,70,71,72,73,74,75,76,77,78,79,80,81,82,83])
 (.cond (.T 84) [1,8,9] (.seq (.region [ .o 85 (.build [.int .i64 0,.str [],.int .i64 0,.int .i64 0] []) [], .n (.storeF 0 4) [.t 4,.t 85],
 .o 5 .move [.const (.int .i64 0)]] none [85]) .ret) [] .skip)) (.seq (.region [ .o 86 .move [.t 9], .o 87 .move [.t 1],
 .o 88 (.build [.int .i64 0,.str [],.int .i64 0,.int .i64 0] [(0,1),(2,1),(3,1)]) [.const (.int .i64 2),.t 86,.t 87], .o 89 .move [.t 8],
 .n (.storeF 0 4) [.t 4,.t 88], .o 5 .move [.t 89]] none [1,8,9,86,87,88,89]) .ret)))) [] .skip))))) (.seq (.region [ .o 90 .move [.t 0], .o 91 .move [.t 1],
 .o 92 (.call 48) [.t 90,.t 91], .o 11 .move [.t 92]] none [0,90,91,92]) (.seq (.seq (.region [ .o 93 .move [.t 11],
 .o 94 (.bin .eql) [.t 93,.const (.str [])]] none [93]) (.cond (.T 94) [1,11] (.seq (.region [
 .o 95 (.build [.int .i64 0,.str [],.int .i64 0,.int .i64 0] []) [], .n (.storeF 0 4) [.t 4,.t 95], .o 5 .move [.const (.int .i64 0)]] none [95]) .ret) []
 .skip)) (.seq (.region [ .o 96 .move [.t 11], .o 97 .move [.t 1],
 .o 98 (.build [.int .i64 0,.str [],.int .i64 0,.int .i64 0] [(0,1),(1,1),(3,1)]) [.const (.int .i64 4),.t 96,.t 97], .o 99 .move [.t 11],
 .o 100 (.len .str) [.t 99], .n (.storeF 0 4) [.t 4,.t 98], .o 5 .move [.t 100]] none [1,11,96,97,98,99,100]) .ret))))) }

/-- (*runrig/runrigref3.reader).name -/

def s29 : SFunc := { fid := 29,mode := .scp,nparams := 1,nboxes := 1,clr := [],results := [.tmp 2 false],body :=
 (.seq (.region [ .o 2 .move [.const (.str [])]] none [2]) (.seq (.region [ .o 4 .move [.t 0], .o 5 (.call 13) [.t 4],
 .o 3 (.allocF 0 [.int .i64 0,.str [],.int .i64 0,.int .i64 0]) [], .n (.storeF 0 4) [.t 3,.t 5]] none [4,5]) (.seq (.seq (.region [ .o 6 .move [.t 0],
 .o 7 (.call 12) [.t 6], .o 8 .move [.t 7], .y 9 (.fieldAddr 0) [.t 3] 8, .y 10 (.loadF 0 false 1 false) [.t 9] 8,
 .y 11 (.bin .eql) [.t 10,.const (.int .i64 1)] 8, .o 12 .pick [.t 8,.t 11,.const (.bool false)]] none [6,7,8,9,10,11]) (.cond (.T 12) [] (.seq (.region [
 .o 13 .move [.t 0], .o 14 .nilCheck [.t 13], .o 15 (.fieldAddr 1) [.T 14], .o 16 (.load false 1 false) [.T 15],
 .o 17 (.bin .add) [.t 16,.const (.int .i64 1)], .o 18 .nilCheck [.t 13], .o 19 (.fieldAddr 1) [.T 18], .n (.store 1) [.T 19,.t 17]] none [0,13,16,17]) (.seq
 (.region [ .o 20 (.fieldAddr 1) [.t 3], .o 21 (.loadF 0 false 1 false) [.t 20], .o 2 .move [.t 21]] none [3,20,21]) .ret)) [3] .skip)) (.seq (.region [
 .o 22 .move [.t 0], .o 23 (.call 15) [.t 22,.const (.int .i64 2)]] none [0,22,23]) (.seq (.region [ .o 2 .move [.const (.str [])]] none []) .ret))))) }

/-- (*runrig/runrigref3.reader).of -/
def s30_l0 : SCode :=
 (.seq (.seq (.region [ .o 6 .move [.t 0], .o 7 (.call 14) [.t 6,.const (.str [91])]] none [6]) (.cond (.T 7) [] .skip [] (.exit 0))) (.block 1 (.seq (.seq
 (.region [ .o 8 .move [.t 3], .o 9 (.bin .eql) [.t 8,.const (.int .i64 3)]] none [8]) (.cond (.T 9) [3] (.seq (.region [ .o 10 .move [.t 0],
 .o 11 (.call 15) [.t 10,.const (.int .i64 4)]] none [0,10,11]) (.seq (.region [ .o 12 (.build [.str [],.int .i64 0] []) [],
 .n (.storeF 0 2) [.t 2,.t 12]] none [12]) .ret)) [] .skip)) (.seq (.region [ .o 13 .move [.t 0], .o 14 .nilCheck [.t 13], .o 15 (.fieldAddr 1) [.T 14],
 .o 16 (.load false 1 false) [.T 15], .o 17 (.bin .add) [.t 16,.const (.int .i64 1)], .o 18 .nilCheck [.t 13], .o 19 (.fieldAddr 1) [.T 18],
 .n (.store 1) [.T 19,.t 17]] none [13,16,17]) (.region [ .o 20 .move [.t 3], .o 21 (.bin .add) [.t 20,.const (.int .i64 1)],
 .o 3 .move [.t 21]] none [20,21])))))
def s30_l1 : SCode :=
 (.seq (.seq (.region [ .o 43 .move [.t 5], .o 44 .move [.t 3], .o 45 (.bin .lss) [.t 43,.t 44]] none [43,44]) (.cond (.T 45) [] .skip [0,3,5] (.exit 3)))
 (.seq (.block 4 (.region [ .o 48 .move [.t 0], .o 49 (.call 18) [.t 48,.const (.str [93])]] none [48,49])) (.region [ .o 46 .move [.t 5],
 .o 47 (.bin .add) [.t 46,.const (.int .i64 1)], .o 5 .move [.t 47]] none [46,47])))
def s30 : SFunc := { fid := 30,mode := .scp,nparams := 1,nboxes := 2,clr := [],results := [.box 2 0 2 true],body :=
 (.seq (.region [ .o 2 (.allocF 0 [.str [],.int .i64 0]) []] none []) (.seq (.region [ .o 3 .move [.const (.int .i64 0)]] none []) (.seq (.block 0
 (.loop s30_l0)) (.seq (.region [ .o 22 .move [.t 3], .o 23 (.build [.str [],.int .i64 0] [(1,1)]) [.t 22], .o 4 (.allocF 1 [.str [],.int .i64 0]) [],
 .n (.storeF 1 2) [.t 4,.t 23]] none [22,23]) (.seq (.block 2 (.seq (.seq (.region [ .o 28 .move [.t 0], .o 29 (.call 14) [.t 28,.const (.str [105,110,116])],
 .o 27 .move [.t 29]] none [28,29]) (.cond (.t 27) [] .skip [27] (.region [ .o 30 .move [.t 0], .o 31 (.call 14) [.t 30,.const (.str [98,111,111,108])],
 .o 27 .move [.t 31]] none [30,31]))) (.cond (.T 27) [] (.seq (.region [ .o 32 .move [.t 0], .o 33 (.call 13) [.t 32], .o 34 (.field 1 1 false) [.t 33],
 .o 35 (.fieldAddr 0) [.t 4], .n (.storeF 1 1) [.t 35,.t 34]] none [32,33,34,35]) (.region [ .o 36 .move [.t 0], .o 37 .nilCheck [.t 36],
 .o 38 (.fieldAddr 1) [.T 37], .o 39 (.load false 1 false) [.T 38], .o 40 (.bin .add) [.t 39,.const (.int .i64 1)], .o 41 .nilCheck [.t 36],
 .o 42 (.fieldAddr 1) [.T 41], .n (.store 1) [.T 42,.t 40]] none [36,39,40])) [] (.region [ .o 24 .move [.t 0], .o 25 (.call 29) [.t 24],
 .o 26 (.fieldAddr 0) [.t 4], .n (.storeF 1 1) [.t 26,.t 25]] none [24,25,26])))) (.seq (.seq (.region [ .o 5 .move [.const (.int .i64 0)]] none []) (.block 3
 (.loop s30_l1))) (.seq (.region [ .o 50 (.loadF 1 true 2 false) [.t 4], .n (.storeF 0 2) [.t 2,.t 50]] none [4,50]) .ret))))))) }

/-- (*runrig/runrigref3.reader).block -/
def s31_l0 : SCode :=
 (.seq (.seq (.region [ .o 6 .move [.t 0], .o 7 (.call 12) [.t 6], .o 8 .move [.t 7], .y 9 .move [.t 0] 8, .y 10 (.call 14) [.t 9,.const (.str [125])] 8,
 .y 11 (.un .not) [.t 10] 8, .o 12 .pick [.t 8,.t 11,.const (.bool false)]] none [6,7,8,9,10,11]) (.cond (.T 12) [] .skip [] (.exit 0))) (.block 1 (.region [
 .o 13 .move [.T 3], .o 14 .move [.t 0], .o 15 (.call 50) [.t 14],
 .o 16 (.lit 9 1 [.int .i64 0,.str [],.str [],.int .i64 0,.nilSl,.nilSl,.nilSl,.int .i64 0,.int .i64 0] [0]) [.T 15], .o 17 (.append 9 136) [.T 13,.T 16],
 .o 3 .move [.T 17]] none [14])))
def s31 : SFunc := { fid := 31,mode := .scp,nparams := 1,nboxes := 0,clr := [],results := [.tmp 2 true],body :=
 (.seq (.region [ .o 2 .move [.const .nilSl]] none [2]) (.seq (.region [ .o 3 .move [.const .nilSl]] none []) (.seq (.region [ .o 4 .move [.t 0],
 .o 5 (.call 49) [.t 4,.const (.str [123])]] none [4,5]) (.seq (.block 0 (.loop s31_l0)) (.seq (.region [ .o 18 .move [.t 0],
 .o 19 (.call 51) [.t 18,.const (.str [125])]] none [0,18,19]) (.seq (.region [ .o 20 .move [.T 3], .o 2 .move [.T 20]] none []) .ret)))))) }

/-- (*runrig/heads.maker).records -/
def s32_l0 : SCode :=
 (.seq (.region [ .o 13 (.bin .lss) [.t 12,.t 11]] none []) (.seq (.cond (.T 13) [] .skip [10,11,12] (.exit 0)) (.seq (.block 1 (.seq (.region [
 .o 14 (.indexAddr 3) [.t 10,.t 12], .o 15 (.load true 3 false) [.T 14], .o 6 (.allocF 0 [.str [],.nilSl,.int .i64 0]) [],
 .n (.storeF 0 3) [.t 6,.T 15]] none []) (.seq (.seq (.region [ .o 16 .move [.t 0], .o 17 .nilCheck [.t 16], .o 18 (.fieldAddr 0) [.T 17],
 .o 19 (.load false 1 false) [.T 18], .o 20 (.fieldAddr 0) [.t 6], .o 21 (.loadF 0 false 1 false) [.t 20],
 .o 22 (.call 52) [.T 19,.t 21]] (some []) [16,20,21]) (.cond (.T 22) [] (.region [ .o 23 .move [.t 0], .o 24 (.fieldAddr 2) [.t 6],
 .o 25 (.loadF 0 false 1 false) [.t 24], .o 26 (.call 37) [.t 23,.t 25]] none [23,24,25,26]) [] .skip)) (.region [ .o 27 .move [.t 0], .o 28 .move [.t 0],
 .o 29 .nilCheck [.t 28], .o 30 (.fieldAddr 0) [.T 29], .o 31 (.load false 1 true) [.T 30], .o 32 (.fieldAddr 0) [.t 6],
 .o 33 (.loadF 0 false 1 false) [.t 32], .o 34 (.lit 1 1 [.str []] [0]) [.t 33], .o 35 (.append 1 16) [.T 31,.T 34], .o 36 .nilCheck [.t 27],
 .o 37 (.fieldAddr 0) [.T 36], .n (.store 1) [.T 37,.T 35]] (some []) [6,27,28,32,33])))) (.region [ .o 38 (.bin .add) [.t 12,.const (.int .i64 1)],
 .o 12 .move [.t 38]] none [38]))))
def s32_l1 : SCode :=
 (.seq (.region [ .o 42 (.bin .lss) [.t 41,.t 40]] none []) (.seq (.cond (.T 42) [] .skip [0,39,40,41] (.exit 2)) (.seq (.block 3 (.seq (.region [
 .o 43 (.indexAddr 3) [.t 39,.t 41], .o 44 (.load true 3 false) [.T 43], .o 9 (.allocF 1 [.str [],.nilSl,.int .i64 0]) [],
 .n (.storeF 1 3) [.t 9,.T 44]] none []) (.region [ .o 45 .move [.T 7], .o 46 (.fieldAddr 0) [.t 9], .o 47 (.loadF 1 false 1 false) [.t 46],
 .o 48 .move [.t 0], .o 49 (.fieldAddr 1) [.t 9], .o 50 (.loadF 1 false 1 false) [.t 49], .o 51 (.call 33) [.t 48,.T 50],
 .o 52 (.build [.str [],.nilSl] [(0,1),(1,1)]) [.t 47,.T 51], .o 53 (.lit 2 1 [.str [],.nilSl] [0]) [.T 52], .o 54 (.append 2 40) [.T 45,.T 53],
 .o 7 .move [.T 54]] (some []) [9,46,47,48,49]))) (.region [ .o 55 (.bin .add) [.t 41,.const (.int .i64 1)], .o 41 .move [.t 55]] none [55]))))
def s32 : SFunc := { fid := 32,mode := .scp,nparams := 2,nboxes := 2,clr := [],results := [.tmp 4 true],body :=
 (.seq (.region [ .o 4 .move [.const .nilSl]] none [4]) (.seq (.seq (.region [ .o 10 .move [.t 1], .o 11 (.len .sl) [.t 10],
 .o 12 .move [.const (.int .i64 0)]] none []) (.block 0 (.loop s32_l0))) (.seq (.region [ .o 7 .move [.const .nilSl]] none []) (.seq (.seq (.region [
 .o 39 .move [.T 1], .o 40 (.len .sl) [.t 39], .o 41 .move [.const (.int .i64 0)]] none []) (.block 2 (.loop s32_l1))) (.seq (.region [ .o 56 .move [.T 7],
 .o 4 .move [.T 56]] none []) .ret))))) }

/-- (*runrig/heads.maker).fields -/
def s33_l0 : SCode :=
 (.seq (.region [ .o 15 (.bin .lss) [.t 14,.t 13]] none []) (.seq (.cond (.T 15) [] .skip [0,6,12,13,14] (.exit 0)) (.seq (.block 1 (.seq (.region [
 .o 16 (.indexAddr 4) [.t 12,.t 14], .o 17 (.load true 4 false) [.T 16], .o 8 (.allocF 0 [.str [],.str [],.int .i64 0,.int .i64 0]) [],
 .n (.storeF 0 4) [.t 8,.t 17]] none [17]) (.seq (.seq (.region [ .o 19 .move [.t 6], .o 20 (.fieldAddr 0) [.t 8], .o 21 (.loadF 0 false 1 false) [.t 20],
 .o 22 (.lookup .str (.agg []) true) [.t 19,.t 21], .o 18 .move [.T 22], .o 23 (.extract 0) [.t 18], .o 24 (.extract 1) [.T 18], .o 9 (.allocF 1 []) [],
 .n (.storeF 1 0) [.t 9,.t 23], .o 10 .move [.t 24]] none [9,19,20,21,23,24]) (.seq (.region [ .o 25 .move [.t 10]] none [10]) (.cond (.T 25) [] (.region [
 .o 26 .move [.t 0], .o 27 (.fieldAddr 3) [.t 8], .o 28 (.loadF 0 false 1 false) [.t 27], .o 29 (.call 37) [.t 26,.t 28]] none [26,27,28,29]) [] .skip))) (.seq
 (.region [ .o 30 .move [.t 6], .o 31 (.fieldAddr 0) [.t 8], .o 32 (.loadF 0 false 1 false) [.t 31], .o 33 (.build [] []) [],
 .n (.mapUpdate .str) [.t 30,.t 32,.t 33]] none [30,31,32,33]) (.region [ .o 34 .move [.T 5], .o 35 (.fieldAddr 0) [.t 8],
 .o 36 (.loadF 0 false 1 false) [.t 35], .o 37 .move [.t 0], .o 38 (.fieldAddr 1) [.t 8], .o 39 (.loadF 0 true 2 false) [.t 38], .o 40 (.fieldAddr 3) [.t 8],
 .o 41 (.loadF 0 false 1 false) [.t 40], .o 42 (.call 53) [.t 37,.t 39,.t 41],
 .o 43 (.build [.str [],.int .i64 0,.int .i64 0,.int .i64 0] [(0,1),(1,3)]) [.t 36,.t 42],
 .o 44 (.lit 4 1 [.str [],.int .i64 0,.int .i64 0,.int .i64 0] [0]) [.t 43], .o 45 (.append 4 40) [.T 34,.T 44],
 .o 5 .move [.T 45]] (some []) [8,35,36,37,38,39,40,41,42,43]))))) (.region [ .o 46 (.bin .add) [.t 14,.const (.int .i64 1)],
 .o 14 .move [.t 46]] none [46]))))
def s33 : SFunc := { fid := 33,mode := .scp,nparams := 2,nboxes := 2,clr := [],results := [.tmp 4 true],body :=
 (.seq (.region [ .o 4 .move [.const .nilSl]] none [4]) (.seq (.region [ .o 5 .move [.const .nilSl]] none []) (.seq (.region [ .o 11 .makeMap [],
 .o 6 .move [.t 11]] none [11]) (.seq (.seq (.region [ .o 12 .move [.T 1], .o 13 (.len .sl) [.t 12], .o 14 .move [.const (.int .i64 0)]] none []) (.block 0
 (.loop s33_l0))) (.seq (.region [ .o 47 .move [.T 5], .o 4 .move [.T 47]] none []) .ret))))) }

/-- (*runrig/heads.maker).sigs -/
def s34_l0 : SCode :=
 (.seq (.region [ .o 16 (.bin .lss) [.t 15,.t 14]] none []) (.seq (.cond (.T 16) [] .skip [0,6,13,14,15] (.exit 0)) (.seq (.block 1 (.seq (.region [
 .o 17 (.indexAddr 7) [.t 13,.t 15], .o 18 (.load true 7 false) [.T 17],
 .o 8 (.allocF 0 [.str [],.nilSl,.bool false,.str [],.int .i64 0,.nilSl,.int .i64 0]) [], .n (.storeF 0 7) [.t 8,.T 18]] none []) (.seq (.seq (.region [
 .o 20 .move [.t 6], .o 21 (.fieldAddr 0) [.t 8], .o 22 (.loadF 0 false 1 false) [.t 21], .o 23 (.lookup .str (.agg []) true) [.t 20,.t 22],
 .o 19 .move [.T 23], .o 24 (.extract 0) [.t 19], .o 25 (.extract 1) [.T 19], .o 9 (.allocF 1 []) [], .n (.storeF 1 0) [.t 9,.t 24],
 .o 10 .move [.t 25]] none [9,20,21,22,24,25]) (.seq (.region [ .o 26 .move [.t 10]] none [10]) (.cond (.T 26) [] (.region [ .o 27 .move [.t 0],
 .o 28 (.fieldAddr 6) [.t 8], .o 29 (.loadF 0 false 1 false) [.t 28], .o 30 (.call 37) [.t 27,.t 29]] none [27,28,29,30]) [] .skip))) (.seq (.region [
 .o 31 .move [.t 6], .o 32 (.fieldAddr 0) [.t 8], .o 33 (.loadF 0 false 1 false) [.t 32], .o 34 (.build [] []) [],
 .n (.mapUpdate .str) [.t 31,.t 33,.t 34]] none [31,32,33,34]) (.seq (.region [ .o 35 (.fieldAddr 0) [.t 8], .o 36 (.loadF 0 false 1 false) [.t 35],
 .o 37 .move [.t 0], .o 38 (.fieldAddr 1) [.t 8], .o 39 (.loadF 0 false 1 false) [.t 38], .o 40 (.call 33) [.t 37,.T 39], .o 41 (.fieldAddr 2) [.t 8],
 .o 42 (.loadF 0 false 1 false) [.t 41],
 .o 43 (.build [.str [],.nilSl,.bool false,.int .i64 0,.int .i64 0,.int .i64 0] [(0,1),(1,1),(2,1)]) [.t 36,.T 40,.t 42],
 .o 11 (.allocF 2 [.str [],.nilSl,.bool false,.int .i64 0,.int .i64 0,.int .i64 0]) [], .n (.storeF 2 6) [.t 11,.T 43]] (some []) [35,36,37,38,41,42]) (.seq
 (.seq (.region [ .o 44 (.fieldAddr 2) [.t 8], .o 45 (.loadF 0 false 1 false) [.t 44]] none [44]) (.cond (.T 45) [] (.region [ .o 46 .move [.t 0],
 .o 47 (.fieldAddr 3) [.t 8], .o 48 (.loadF 0 true 2 false) [.t 47], .o 49 (.fieldAddr 6) [.t 8], .o 50 (.loadF 0 false 1 false) [.t 49],
 .o 51 (.call 53) [.t 46,.t 48,.t 50], .o 52 (.fieldAddr 3) [.t 11], .n (.storeF 2 3) [.t 52,.t 51]] none [8,46,47,48,49,50,51,52]) [8] .skip)) (.region [
 .o 53 .move [.T 5], .o 54 (.loadF 2 true 6 false) [.t 11], .o 55 (.lit 6 1 [.str [],.nilSl,.bool false,.int .i64 0,.int .i64 0,.int .i64 0] [0]) [.T 54],
 .o 56 (.append 6 72) [.T 53,.T 55], .o 5 .move [.T 56]] none [11]))))))) (.region [ .o 57 (.bin .add) [.t 15,.const (.int .i64 1)],
 .o 15 .move [.t 57]] none [57]))))
def s34 : SFunc := { fid := 34,mode := .scp,nparams := 2,nboxes := 3,clr := [],results := [.tmp 4 true],body :=
 (.seq (.region [ .o 4 .move [.const .nilSl]] none [4]) (.seq (.region [ .o 5 .move [.const .nilSl]] none []) (.seq (.region [ .o 12 .makeMap [],
 .o 6 .move [.t 12]] none [12]) (.seq (.seq (.region [ .o 13 .move [.T 1], .o 14 (.len .sl) [.t 13], .o 15 .move [.const (.int .i64 0)]] none []) (.block 0
 (.loop s34_l0))) (.seq (.region [ .o 58 .move [.T 5], .o 4 .move [.T 58]] none []) .ret))))) }

/-- slices.IndexFunc[[]runrig/api.Sig,runrig/api.Sig] -/
def s35_l0 : SCode :=
 (.seq (.region [ .o 9 (.bin .lss) [.t 8,.t 7]] none []) (.seq (.cond (.T 9) [] .skip [0,1,7,8] (.exit 0)) (.seq (.block 1 (.seq (.region [ .o 10 .move [.t 8],
 .o 5 .move [.t 10]] none [10]) (.seq (.region [ .o 11 .move [.t 1], .o 12 .move [.t 0], .o 13 .move [.t 5], .o 14 (.indexAddr 6) [.T 12,.t 13],
 .o 15 (.load true 6 false) [.T 14], .o 16 .callV [.t 11,.T 15]] none [11,13]) (.cond (.T 16) [0,1,7,8] (.seq (.region [ .o 17 .move [.t 5],
 .o 4 .move [.t 17]] none [5,17]) .ret) [5] .skip)))) (.region [ .o 18 (.bin .add) [.t 8,.const (.int .i64 1)], .o 8 .move [.t 18]] none [18]))))
def s35 : SFunc := { fid := 35,mode := .scp,nparams := 2,nboxes := 0,clr := [],results := [.tmp 4 false],body :=
 (.seq (.region [ .o 4 .move [.const (.int .i64 0)]] none [4]) (.seq (.seq (.region [ .o 6 .move [.t 0], .o 7 (.len .sl) [.T 6],
 .o 8 .move [.const (.int .i64 0)]] none []) (.block 0 (.loop s35_l0))) (.seq (.region [ .o 4 .move [.const (.int .i64 (-1))]] none []) .ret))) }

/-- runrig/heads.isMain -/

def s36 : SFunc := { fid := 36,mode := .pure,nparams := 1,nboxes := 1,clr := [],results := [.tmp 2 false],body :=
 (.seq (.region [ .o 1 (.boxF 0 6) [.T 0], .o 2 .move [.const (.bool false)]] none [2]) (.seq (.region [ .o 3 (.fieldAddr 0) [.t 1],
 .o 4 (.loadF 0 false 1 false) [.t 3], .o 5 (.bin .eql) [.t 4,.const (.str [109,97,105,110])], .o 6 .move [.t 5], .y 7 (.fieldAddr 1) [.t 1] 6,
 .y 8 (.loadF 0 false 1 false) [.t 7] 6, .y 9 (.len .sl) [.T 8] 6, .y 10 (.bin .eql) [.t 9,.const (.int .i64 0)] 6,
 .o 11 .pick [.t 6,.t 10,.const (.bool false)], .o 12 .move [.t 11], .y 13 (.fieldAddr 2) [.t 1] 12, .y 14 (.loadF 0 false 1 false) [.t 13] 12,
 .y 15 (.un .not) [.t 14] 12, .o 16 .pick [.t 12,.t 15,.const (.bool false)], .o 2 .move [.t 16]] none [1,3,4,5,6,7,8,9,10,11,12,13,14,15,16]) .ret)) }

/-- (*runrig/heads.maker).fail -/

def s37 : SFunc := { fid := 37,mode := .scp,nparams := 2,nboxes := 0,clr := [],results := [],body :=
 (.seq (.region [ .o 4 .move [.t 0], .o 5 .nilCheck [.t 4], .o 6 (.fieldAddr 1) [.T 5], .o 7 (.fieldAddr 0) [.T 6], .o 8 (.load false 1 false) [.T 7],
 .o 9 (.bin .eql) [.t 8,.const (.int .i64 0)]] none [4,8]) (.cond (.T 9) [] (.region [ .o 10 .move [.t 0], .o 11 .move [.t 1],
 .o 12 (.build [.int .i64 0,.int .i64 0] [(0,1),(1,1)]) [.const (.int .i64 3),.t 11], .o 13 .nilCheck [.t 10], .o 14 (.fieldAddr 1) [.T 13],
 .n (.store 2) [.T 14,.t 12]] none [0,1,10,11,12]) [0,1] .skip)) }

/-- slices.Clone[[]runrig/api.Field,runrig/api.Field] -/

def s38 : SFunc := { fid := 38,mode := .pure,nparams := 1,nboxes := 0,clr := [],results := [.tmp 2 true],body :=
 (.seq (.region [ .o 2 .move [.const .nilSl]] none [2]) (.seq (.seq (.region [ .o 3 .move [.t 0], .o 4 (.eqv .sl false) [.T 3,.const .nilSl]] none [])
 (.cond (.T 4) [0] (.seq (.region [ .o 2 .move [.const .nilSl]] none []) .ret) [] .skip)) (.seq (.region [
 .o 5 (.lit 4 0 [.str [],.int .i64 0,.int .i64 0,.int .i64 0] []) [], .o 6 .move [.T 0], .o 7 (.append 4 40) [.T 5,.T 6], .o 2 .move [.T 7]] none []) .ret))) }

/-- (*runrig/typed.checker).block -/
def s39_l0 : SCode :=
 (.seq (.region [ .o 11 (.bin .lss) [.t 10,.t 9]] none []) (.seq (.cond (.T 11) [] .skip [0,8,9,10] (.exit 0)) (.seq (.block 1 (.seq (.region [
 .o 12 (.indexAddr 9) [.t 8,.t 10], .o 13 (.load true 9 false) [.T 12],
 .o 7 (.allocF 0 [.int .i64 0,.str [],.str [],.int .i64 0,.nilSl,.nilSl,.nilSl,.int .i64 0,.int .i64 0]) [], .n (.storeF 0 9) [.t 7,.T 13]] none []) (.seq
 (.seq (.region [ .o 14 .move [.t 0], .o 15 (.call 22) [.t 14]] none [14]) (.cond (.T 15) [0,5,7,8,9,10] (.seq (.region [ .o 4 .move [.const .nilSl]] none [])
 .ret) [] .skip)) (.region [ .o 16 .move [.T 5], .o 17 .move [.t 0], .o 18 (.loadF 0 true 9 false) [.t 7], .o 19 (.call 54) [.t 17,.T 18],
 .o 20 (.lit 9 1 [.int .i64 0,.str [],.str [],.int .i64 0,.nilSl,.nilSl,.nilSl,.int .i64 0,.int .i64 0] [0]) [.T 19], .o 21 (.append 9 136) [.T 16,.T 20],
 .o 5 .move [.T 21]] none [7,17])))) (.region [ .o 22 (.bin .add) [.t 10,.const (.int .i64 1)], .o 10 .move [.t 22]] none [22]))))
def s39 : SFunc := { fid := 39,mode := .scp,nparams := 2,nboxes := 1,clr := [],results := [.tmp 4 true],body :=
 (.seq (.region [ .o 4 .move [.const .nilSl]] none [4]) (.seq (.region [ .o 5 .move [.const .nilSl]] none []) (.seq (.seq (.region [ .o 8 .move [.T 1],
 .o 9 (.len .sl) [.t 8], .o 10 .move [.const (.int .i64 0)]] none []) (.block 0 (.loop s39_l0))) (.seq (.region [ .o 23 .move [.T 5],
 .o 4 .move [.T 23]] none []) .ret)))) }

/-- runrig/runrigref3.SameStmt -/

def s40 : SFunc := { fid := 40,mode := .pure,nparams := 2,nboxes := 2,clr := [],results := [.tmp 4 false],body :=
 (.seq (.region [ .o 2 (.boxF 0 9) [.T 0], .o 3 (.boxF 1 9) [.T 1], .o 4 .move [.const (.bool false)]] none [4]) (.seq (.region [ .o 5 (.fieldAddr 0) [.t 2],
 .o 6 (.loadF 0 false 1 false) [.t 5], .o 7 (.fieldAddr 0) [.t 3], .o 8 (.loadF 1 false 1 false) [.t 7], .o 9 (.bin .eql) [.t 6,.t 8], .o 10 .move [.t 9],
 .y 11 (.fieldAddr 1) [.t 2] 10, .y 12 (.loadF 0 false 1 false) [.t 11] 10, .y 13 (.fieldAddr 1) [.t 3] 10, .y 14 (.loadF 1 false 1 false) [.t 13] 10,
 .y 15 (.bin .eql) [.t 12,.t 14] 10, .o 16 .pick [.t 10,.t 15,.const (.bool false)], .o 17 .move [.t 16], .y 18 (.fieldAddr 2) [.t 2] 17,
 .y 19 (.loadF 0 true 2 false) [.t 18] 17, .y 20 (.fieldAddr 2) [.t 3] 17, .y 21 (.loadF 1 true 2 false) [.t 20] 17,
 .y 22 (.eqv (.flat [.str,.int]) false) [.t 19,.t 21] 17, .o 23 .pick [.t 17,.t 22,.const (.bool false)], .o 24 .move [.t 23], .y 25 (.fieldAddr 8) [.t 2] 24,
 .y 26 (.loadF 0 false 1 false) [.t 25] 24, .y 27 (.fieldAddr 8) [.t 3] 24, .y 28 (.loadF 1 false 1 false) [.t 27] 24, .y 29 (.bin .eql) [.t 26,.t 28] 24,
 .o 30 .pick [.t 24,.t 29,.const (.bool false)], .o 31 .move [.t 30], .y 32 (.fieldAddr 4) [.t 2] 31, .y 33 (.loadF 0 false 1 false) [.t 32] 31,
 .y 34 (.fieldAddr 4) [.t 3] 31, .y 35 (.loadF 1 false 1 false) [.t 34] 31, .y 36 (.call 55) [.T 33,.T 35] 31, .o 37 .pick [.t 31,.t 36,.const (.bool false)],
 .o 38 .move [.t 37], .y 39 (.fieldAddr 5) [.t 2] 38, .y 40 (.loadF 0 false 1 false) [.t 39] 38, .y 41 (.fieldAddr 5) [.t 3] 38,
 .y 42 (.loadF 1 false 1 false) [.t 41] 38, .y 43 (.call 25) [.T 40,.T 42] 38, .o 44 .pick [.t 38,.t 43,.const (.bool false)], .o 45 .move [.t 44],
 .y 46 (.fieldAddr 6) [.t 2] 45, .y 47 (.loadF 0 false 1 false) [.t 46] 45, .y 48 (.fieldAddr 6) [.t 3] 45, .y 49 (.loadF 1 false 1 false) [.t 48] 45,
 .y 50 (.call 25) [.T 47,.T 49] 45, .o 51 .pick [.t 45,.t 50,.const (.bool false)],
 .o 4 .move [.t 51]] none [2,3,5,6,7,8,9,10,11,12,13,14,15,16,17,18,19,20,21,22,23,24,25,26,27,28,29,30,31,32,33,34,35,36,37,38,39,40,41,42,43,44,45,46,47,48,49,50,51])
 .ret)) }

/-- runrig/runriglaw8.places -/
def s41_l0 : SCode :=
 (.seq (.seq (.region [ .o 6 .move [.t 5], .o 7 .move [.t 0], .o 8 (.len .sl) [.T 7], .o 9 (.bin .lss) [.t 6,.t 8]] none [6,8]) (.cond (.T 9) [] .skip [0,1,5]
 (.exit 0))) (.seq (.block 1 (.seq (.region [ .o 12 .move [.t 0], .o 13 .move [.t 5], .o 14 (.indexAddr 11) [.T 12,.t 13], .o 15 (.fieldAddr 6) [.T 14],
 .o 16 (.load false 1 false) [.T 15], .o 17 .move [.t 1], .o 18 .move [.t 5], .o 19 (.indexAddr 11) [.T 17,.t 18], .o 20 (.fieldAddr 6) [.T 19],
 .o 21 (.load false 1 false) [.T 20], .o 22 (.bin .neq) [.t 16,.t 21], .o 23 .move [.t 22], .z 24 .move [.t 0] 23, .z 25 .move [.t 5] 23,
 .z 26 (.indexAddr 11) [.T 24,.t 25] 23, .z 27 (.fieldAddr 5) [.T 26] 23, .z 28 (.load false 1 false) [.T 27] 23, .z 29 .move [.t 1] 23, .z 30 .move [.t 5] 23,
 .z 31 (.indexAddr 11) [.T 29,.t 30] 23, .z 32 (.fieldAddr 5) [.T 31] 23, .z 33 (.load false 1 false) [.T 32] 23, .z 34 (.call 41) [.T 28,.T 33] 23,
 .z 35 (.un .not) [.t 34] 23, .o 36 .pick [.t 23,.const (.bool true),.t 35]] (some []) [13,16,18,21,22,23,24,25,26,27,28,29,30,31,32,33,34,35])
 (.cond (.T 36) [0,1,5] (.seq (.region [ .o 4 .move [.const (.bool false)]] none []) .ret) [] .skip))) (.region [ .o 10 .move [.t 5],
 .o 11 (.bin .add) [.t 10,.const (.int .i64 1)], .o 5 .move [.t 11]] none [10,11])))
def s41 : SFunc := { fid := 41,mode := .pure,nparams := 2,nboxes := 0,clr := [],results := [.tmp 4 false],body :=
 (.seq (.region [ .o 4 .move [.const (.bool false)]] none [4]) (.seq (.seq (.region [ .o 5 .move [.const (.int .i64 0)]] none []) (.block 0 (.loop s41_l0)))
 (.seq (.region [ .o 4 .move [.const (.bool true)]] none []) .ret))) }

/-- runrig/runrigref2.letter -/

def s42 : SFunc := { fid := 42,mode := .pure,nparams := 1,nboxes := 0,clr := [],results := [.tmp 2 false],body :=
 (.seq (.region [ .o 2 .move [.const (.bool false)]] none [2]) (.seq (.region [ .o 3 .move [.t 0], .o 4 (.bin .geq) [.t 3,.const (.int .u8 97)],
 .o 5 .move [.t 4], .y 6 .move [.t 0] 5, .y 7 (.bin .leq) [.t 6,.const (.int .u8 122)] 5, .o 8 .pick [.t 5,.t 7,.const (.bool false)], .o 9 .move [.t 8],
 .z 10 .move [.t 0] 9, .z 11 (.bin .geq) [.t 10,.const (.int .u8 65)] 9, .z 12 .move [.t 11] 9, .y 13 .move [.t 0] 12,
 .y 14 (.bin .leq) [.t 13,.const (.int .u8 90)] 12, .z 15 .pick [.t 12,.t 14,.const (.bool false)] 9, .o 16 .pick [.t 9,.const (.bool true),.t 15],
 .o 2 .move [.t 16]] none [0,3,4,5,6,7,8,9,10,11,12,13,14,15,16]) .ret)) }

/-- runrig/runrigref2.run -/
def s43_l0 : SCode :=
 (.seq (.seq (.region [ .o 8 .move [.t 1], .o 9 .move [.t 7], .o 10 (.bin .add) [.t 8,.t 9], .o 11 .move [.t 0], .o 12 (.len .str) [.t 11],
 .o 13 (.bin .lss) [.t 10,.t 12], .o 14 .move [.t 13], .y 15 .move [.t 0] 14, .y 16 .move [.t 1] 14, .y 17 .move [.t 7] 14, .y 18 (.bin .add) [.t 16,.t 17] 14,
 .y 19 .index [.t 15,.t 18] 14, .y 20 (.call 46) [.t 19] 14, .y 21 .move [.t 20] 14, .z 22 .move [.t 2] 21, .z 23 (.un .not) [.t 22] 21,
 .z 24 .move [.t 23] 21, .y 25 .move [.t 0] 24, .y 26 .move [.t 1] 24, .y 27 .move [.t 7] 24, .y 28 (.bin .add) [.t 26,.t 27] 24,
 .y 29 .index [.t 25,.t 28] 24, .y 30 (.call 42) [.t 29] 24, .z 31 .pick [.t 24,.t 30,.const (.bool false)] 21,
 .y 32 .pick [.t 21,.const (.bool true),.t 31] 14,
 .o 33 .pick [.t 14,.t 32,.const (.bool false)]] none [8,9,10,11,12,13,14,15,16,17,18,19,20,21,22,23,24,25,26,27,28,29,30,31,32]) (.cond (.T 33) []
 .skip [0,1,2] (.exit 0))) (.block 1 (.region [ .o 34 .move [.t 7], .o 35 (.bin .add) [.t 34,.const (.int .i64 1)], .o 7 .move [.t 35]] none [34,35])))
def s43 : SFunc := { fid := 43,mode := .pure,nparams := 3,nboxes := 0,clr := [],results := [.tmp 6 false],body :=
 (.seq (.region [ .o 6 .move [.const (.int .i64 0)]] none [6]) (.seq (.region [ .o 7 .move [.const (.int .i64 0)]] none []) (.seq (.block 0 (.loop s43_l0))
 (.seq (.region [ .o 36 .move [.t 7], .o 6 .move [.t 36]] none [7,36]) .ret)))) }

/-- runrig/runrigref2.Word -/
def s44_l0 : SCode :=
 (.seq (.seq (.region [ .o 6 .move [.t 4], .o 7 .move [.t 3], .o 8 (.len .sl) [.T 7], .o 9 (.bin .lss) [.t 6,.t 8]] none [6,8]) (.cond (.T 9) [] .skip [0,3,4]
 (.exit 0))) (.seq (.block 1 (.seq (.region [ .o 12 .move [.t 3], .o 13 .move [.t 4], .o 14 (.indexAddr 1) [.T 12,.t 13], .o 15 (.load false 1 false) [.T 14],
 .o 16 .move [.t 0], .o 17 (.bin .eql) [.t 15,.t 16]] none [13,15,16]) (.cond (.T 17) [0,3,4] (.seq (.region [ .o 2 .move [.const (.bool true)]] none [])
 .ret) [] .skip))) (.region [ .o 10 .move [.t 4], .o 11 (.bin .add) [.t 10,.const (.int .i64 1)], .o 4 .move [.t 11]] none [10,11])))
def s44 : SFunc := { fid := 44,mode := .pure,nparams := 1,nboxes := 0,clr := [],results := [.tmp 2 false],body :=
 (.seq (.region [ .o 2 .move [.const (.bool false)]] none [2]) (.seq (.region [ .o 5 (.call 56) [], .o 3 .move [.T 5]] none []) (.seq (.seq (.region [
 .o 4 .move [.const (.int .i64 0)]] none []) (.block 0 (.loop s44_l0))) (.seq (.region [ .o 2 .move [.const (.bool false)]] none []) .ret)))) }

/-- runrig/runrigref2.Name -/
def s45_l0 : SCode :=
 (.seq (.seq (.region [ .o 22 .move [.t 3], .o 23 .move [.t 0], .o 24 (.len .str) [.t 23], .o 25 (.bin .lss) [.t 22,.t 24]] none [22,23,24]) (.cond (.T 25) []
 .skip [0,3] (.exit 0))) (.seq (.block 1 (.seq (.region [ .o 28 .move [.t 0], .o 29 .move [.t 3], .o 30 .index [.t 28,.t 29], .o 31 (.call 42) [.t 30],
 .o 32 (.un .not) [.t 31], .o 33 .move [.t 32], .y 34 .move [.t 0] 33, .y 35 .move [.t 3] 33, .y 36 .index [.t 34,.t 35] 33, .y 37 (.call 46) [.t 36] 33,
 .y 38 (.un .not) [.t 37] 33, .o 39 .pick [.t 33,.t 38,.const (.bool false)]] none [28,29,30,31,32,33,34,35,36,37,38]) (.cond (.T 39) [0,3] (.seq (.region [
 .o 2 .move [.const (.bool false)]] none []) .ret) [] .skip))) (.region [ .o 26 .move [.t 3], .o 27 (.bin .add) [.t 26,.const (.int .i64 1)],
 .o 3 .move [.t 27]] none [26,27])))
def s45 : SFunc := { fid := 45,mode := .pure,nparams := 1,nboxes := 0,clr := [],results := [.tmp 2 false],body :=
 (.seq (.region [ .o 2 .move [.const (.bool false)]] none [2]) (.seq (.seq (.region [ .o 4 .move [.t 0], .o 5 (.len .str) [.t 4],
 .o 6 (.bin .lss) [.t 5,.const (.int .i64 1)], .o 7 .move [.t 6], .z 8 .move [.t 0] 7, .z 9 (.len .str) [.t 8] 7,
 .z 10 (.bin .gtr) [.t 9,.const (.int .i64 8)] 7, .o 11 .pick [.t 7,.const (.bool true),.t 10], .o 12 .move [.t 11], .z 13 .move [.t 0] 12,
 .z 14 .index [.t 13,.const (.int .i64 0)] 12, .z 15 (.call 42) [.t 14] 12, .z 16 (.un .not) [.t 15] 12, .o 17 .pick [.t 12,.const (.bool true),.t 16],
 .o 18 .move [.t 17], .z 19 .move [.t 0] 18, .z 20 (.call 44) [.t 19] 18,
 .o 21 .pick [.t 18,.const (.bool true),.t 20]] none [4,5,6,7,8,9,10,11,12,13,14,15,16,17,18,19,20]) (.cond (.T 21) [0] (.seq (.region [
 .o 2 .move [.const (.bool false)]] none []) .ret) [] .skip)) (.seq (.seq (.region [ .o 3 .move [.const (.int .i64 0)]] none []) (.block 0 (.loop s45_l0)))
 (.seq (.region [ .o 2 .move [.const (.bool true)]] none []) .ret)))) }

/-- runrig/runrigref2.digit -/

def s46 : SFunc := { fid := 46,mode := .pure,nparams := 1,nboxes := 0,clr := [],results := [.tmp 2 false],body :=
 (.seq (.region [ .o 2 .move [.const (.bool false)]] none [2]) (.seq (.region [ .o 3 .move [.t 0], .o 4 (.bin .geq) [.t 3,.const (.int .u8 48)],
 .o 5 .move [.t 4], .y 6 .move [.t 0] 5, .y 7 (.bin .leq) [.t 6,.const (.int .u8 57)] 5, .o 8 .pick [.t 5,.t 7,.const (.bool false)],
 .o 2 .move [.t 8]] none [0,3,4,5,6,7,8]) .ret)) }

/-- runrig/runrigref2.whole -/
def s47_l0 : SCode :=
 (.seq (.seq (.region [ .o 7 .move [.t 5], .o 8 .move [.t 0], .o 9 (.len .str) [.t 8], .o 10 (.bin .lss) [.t 7,.t 9]] none [7,8,9]) (.cond (.T 10) []
 .skip [0,5] (.exit 0))) (.seq (.block 1 (.seq (.region [ .o 13 .move [.t 0], .o 14 .move [.t 5], .o 15 .index [.t 13,.t 14],
 .o 16 (.bin .sub) [.t 15,.const (.int .u8 48)], .o 17 (.conv .i64) [.t 16], .o 6 .move [.t 17]] none [13,14,15,16,17]) (.seq (.seq (.region [
 .o 18 .move [.t 4], .o 19 .move [.t 6], .o 20 (.bin .sub) [.const (.int .i64 9223372036854775807),.t 19], .o 21 (.bin .quo) [.t 20,.const (.int .i64 10)],
 .o 22 (.bin .gtr) [.t 18,.t 21]] none [18,19,20,21]) (.cond (.T 22) [0,4,5,6] (.seq (.region [ .o 2 .move [.const (.int .i64 0)],
 .o 3 .move [.const (.bool false)]] none []) .ret) [] .skip)) (.region [ .o 23 .move [.t 4], .o 24 (.bin .mul) [.const (.int .i64 10),.t 23],
 .o 25 .move [.t 6], .o 26 (.bin .add) [.t 24,.t 25], .o 4 .move [.t 26]] none [6,23,24,25,26])))) (.region [ .o 11 .move [.t 5],
 .o 12 (.bin .add) [.t 11,.const (.int .i64 1)], .o 5 .move [.t 12]] none [11,12])))
def s47 : SFunc := { fid := 47,mode := .pure,nparams := 1,nboxes := 0,clr := [],results := [.tmp 2 false,.tmp 3 false],body :=
 (.seq (.region [ .o 2 .move [.const (.int .i64 0)], .o 3 .move [.const (.bool false)]] none [2,3]) (.seq (.region [
 .o 4 .move [.const (.int .i64 0)]] none []) (.seq (.seq (.region [ .o 5 .move [.const (.int .i64 0)]] none []) (.block 0 (.loop s47_l0))) (.seq (.region [
 .o 27 .move [.t 4], .o 2 .move [.t 27], .o 3 .move [.const (.bool true)]] none [4,27]) .ret)))) }

/-- runrig/runrigref2.sign -/
def s48_l0 : SCode :=
 (.seq (.seq (.region [ .o 10 .move [.t 6], .o 11 .move [.t 5], .o 12 (.len .sl) [.T 11], .o 13 (.bin .lss) [.t 10,.t 12]] none [10,12]) (.cond (.T 13) []
 .skip [5,6] (.exit 0))) (.seq (.block 1 (.seq (.region [ .o 16 .move [.t 0], .o 17 (.len .str) [.t 16], .o 18 .move [.t 1], .o 19 (.bin .sub) [.t 17,.t 18],
 .o 20 (.bin .geq) [.t 19,.const (.int .i64 2)], .o 21 .move [.t 20], .y 22 .move [.t 0] 21, .y 23 .move [.t 1] 21, .y 24 .move [.t 1] 21,
 .y 25 (.bin .add) [.t 24,.const (.int .i64 2)] 21, .y 26 (.slice true true true false 0) [.t 22,.t 23,.t 25] 21, .y 27 .move [.t 5] 21, .y 28 .move [.t 6] 21,
 .y 29 (.indexAddr 1) [.T 27,.t 28] 21, .y 30 (.load false 1 false) [.T 29] 21, .y 31 (.bin .eql) [.t 26,.t 30] 21,
 .o 32 .pick [.t 21,.t 31,.const (.bool false)]] (some []) [16,17,18,19,20,21,22,23,24,25,26,27,28,29,30,31]) (.cond (.T 32) [0,1] (.seq (.region [
 .o 33 .move [.T 5], .o 34 .move [.t 6], .o 35 (.indexAddr 1) [.T 33,.t 34], .o 36 (.load false 1 false) [.T 35], .o 4 .move [.t 36]] none [6,34,36]) .ret) []
 .skip))) (.region [ .o 14 .move [.t 6], .o 15 (.bin .add) [.t 14,.const (.int .i64 1)], .o 6 .move [.t 15]] none [14,15])))
def s48_l1 : SCode :=
 (.seq (.seq (.region [ .o 37 .move [.t 8], .o 38 .move [.t 7], .o 39 (.len .str) [.t 38], .o 40 (.bin .lss) [.t 37,.t 39]] none [37,38,39]) (.cond (.T 40) []
 .skip [0,1,7,8] (.exit 2))) (.seq (.block 3 (.seq (.region [ .o 43 .move [.t 0], .o 44 .move [.t 1], .o 45 .index [.t 43,.t 44], .o 46 .move [.t 7],
 .o 47 .move [.t 8], .o 48 .index [.t 46,.t 47], .o 49 (.bin .eql) [.t 45,.t 48]] (some []) [43,44,45,46,47,48]) (.cond (.T 49) [0,1] (.seq (.region [
 .o 50 .move [.t 7], .o 51 .move [.t 8], .o 52 .move [.t 8], .o 53 (.bin .add) [.t 52,.const (.int .i64 1)],
 .o 54 (.slice true true true false 0) [.t 50,.t 51,.t 53], .o 4 .move [.t 54]] none [7,8,50,51,52,53,54]) .ret) [] .skip))) (.region [ .o 41 .move [.t 8],
 .o 42 (.bin .add) [.t 41,.const (.int .i64 1)], .o 8 .move [.t 42]] none [41,42])))
def s48 : SFunc := { fid := 48,mode := .pure,nparams := 2,nboxes := 0,clr := [],results := [.tmp 4 false],body :=
 (.seq (.region [ .o 4 .move [.const (.str [])]] none [4]) (.seq (.region [
 .o 9 (.lit 1 5 [.str []] [0,1,2,3,4]) [.const (.str [60,61]),.const (.str [61,61]),.const (.str [33,61]),.const (.str [38,38]),.const (.str [124,124])],
 .o 5 .move [.T 9]] none []) (.seq (.seq (.region [ .o 6 .move [.const (.int .i64 0)]] none []) (.block 0 (.loop s48_l0))) (.seq (.region [
 .o 7 .move [.const (.str [123,125,40,41,91,93,59,58,44,46,61,43,45,42,47,37,60,33])]] none []) (.seq (.seq (.region [
 .o 8 .move [.const (.int .i64 0)]] none []) (.block 2 (.loop s48_l1))) (.seq (.region [ .o 4 .move [.const (.str [])]] none []) .ret)))))) }

/-- (*runrig/runrigref3.reader).opens -/

def s49 : SFunc := { fid := 49,mode := .scp,nparams := 2,nboxes := 0,clr := [],results := [],body :=
 (.seq (.seq (.region [ .o 4 .move [.t 0], .o 5 .move [.t 1], .o 6 (.call 14) [.t 4,.t 5], .o 7 .move [.t 6], .y 8 .move [.t 0] 7, .y 9 .nilCheck [.t 8] 7,
 .y 10 (.fieldAddr 2) [.T 9] 7, .y 11 (.load false 1 false) [.T 10] 7, .y 12 (.bin .geq) [.t 11,.const (.int .i64 50)] 7,
 .o 13 .pick [.t 7,.t 12,.const (.bool false)]] none [4,5,6,7,8,9,10,11,12]) (.cond (.T 13) [1] (.seq (.region [ .o 14 .move [.t 0],
 .o 15 (.call 15) [.t 14,.const (.int .i64 4)]] none [0,14,15]) .ret) [] .skip)) (.seq (.region [ .o 16 .move [.t 0], .o 17 .move [.t 1],
 .o 18 (.call 18) [.t 16,.t 17]] none [1,16,17,18]) (.region [ .o 19 .move [.t 0], .o 20 .nilCheck [.t 19], .o 21 (.fieldAddr 2) [.T 20],
 .o 22 (.load false 1 false) [.T 21], .o 23 (.bin .add) [.t 22,.const (.int .i64 1)], .o 24 .nilCheck [.t 19], .o 25 (.fieldAddr 2) [.T 24],
 .n (.store 1) [.T 25,.t 23]] none [0,19,22,23]))) }

/-- (*runrig/runrigref3.reader).stmt -/

def s50 : SFunc := { fid := 50,mode := .scp,nparams := 1,nboxes := 3,clr := [],results := [.box 2 0 9 true],body :=
 (.seq (.region [ .o 2 (.allocF 0 [.int .i64 0,.str [],.str [],.int .i64 0,.nilSl,.nilSl,.nilSl,.int .i64 0,.int .i64 0]) []] none []) (.seq (.region [
 .o 5 .move [.t 0], .o 6 (.call 13) [.t 5], .o 3 (.allocF 1 [.int .i64 0,.str [],.int .i64 0,.int .i64 0]) [], .n (.storeF 1 4) [.t 3,.t 6]] none [5,6]) (.seq
 (.region [ .o 7 (.fieldAddr 3) [.t 3], .o 8 (.loadF 1 false 1 false) [.t 7],
 .o 9 (.build [.int .i64 0,.str [],.str [],.int .i64 0,.nilSl,.nilSl,.nilSl,.int .i64 0,.int .i64 0] [(7,1)]) [.t 8],
 .o 4 (.allocF 2 [.int .i64 0,.str [],.str [],.int .i64 0,.nilSl,.nilSl,.nilSl,.int .i64 0,.int .i64 0]) [], .n (.storeF 2 9) [.t 4,.T 9]] none [7,8]) (.seq
 (.block 0 (.seq (.seq (.region [ .o 14 .move [.t 0], .o 15 (.call 14) [.t 14,.const (.str [118,97,114])], .o 13 .move [.t 15]] none [14,15]) (.cond (.t 13) []
 .skip [13] (.region [ .o 16 .move [.t 0], .o 17 (.call 14) [.t 16,.const (.str [108,101,116])], .o 13 .move [.t 17]] none [16,17]))) (.cond (.T 13) [] (.seq
 (.region [ .o 18 .move [.t 0], .o 19 .nilCheck [.t 18], .o 20 (.fieldAddr 1) [.T 19], .o 21 (.load false 1 false) [.T 20],
 .o 22 (.bin .add) [.t 21,.const (.int .i64 1)], .o 23 .nilCheck [.t 18], .o 24 (.fieldAddr 1) [.T 23], .n (.store 1) [.T 24,.t 22]] none [18,21,22]) (.seq
 (.region [ .o 25 (.fieldAddr 0) [.t 4], .n (.storeF 2 1) [.t 25,.const (.int .i64 1)]] none [25]) (.seq (.region [ .o 26 .move [.t 0],
 .o 27 (.call 29) [.t 26], .o 28 (.fieldAddr 1) [.t 4], .n (.storeF 2 1) [.t 28,.t 27]] none [26,27,28]) (.seq (.region [ .o 29 .move [.t 0],
 .o 30 (.call 18) [.t 29,.const (.str [58])]] none [29,30]) (.seq (.region [ .o 31 .move [.t 0], .o 32 (.call 30) [.t 31], .o 33 (.fieldAddr 2) [.t 4],
 .n (.storeF 2 2) [.t 33,.t 32]] none [31,32,33]) (.seq (.seq (.region [ .o 34 (.fieldAddr 1) [.t 3], .o 35 (.loadF 1 false 1 false) [.t 34],
 .o 36 (.bin .eql) [.t 35,.const (.str [108,101,116])]] none [3,34,35]) (.cond (.T 36) [] (.seq (.region [ .o 37 (.fieldAddr 0) [.t 4],
 .n (.storeF 2 1) [.t 37,.const (.int .i64 2)]] none [37]) (.seq (.region [ .o 38 .move [.t 0], .o 39 (.call 18) [.t 38,.const (.str [61])]] none [38,39])
 (.region [ .o 40 .move [.t 0], .o 41 (.call 57) [.t 40,.const (.int .i64 0)],
 .o 42 (.lit 11 1 [.int .i64 0,.int .i64 0,.str [],.str [],.int .i64 0,.nilSl,.int .i64 0,.int .i64 0,.int .i64 0,.int .i64 0,.int .i64 0] [0]) [.T 41],
 .o 43 (.fieldAddr 4) [.t 4], .n (.storeF 2 1) [.t 43,.T 42]] none [40,43]))) [] .skip)) (.region [ .o 44 .move [.t 0],
 .o 45 (.call 18) [.t 44,.const (.str [59])]] none [0,44,45]))))))) [3] (.seq (.region [ .o 47 .move [.t 0], .o 48 (.call 14) [.t 47,.const (.str [105,102])],
 .o 46 .move [.t 48]] none [47,48]) (.cond (.T 46) [] (.seq (.region [ .o 49 .move [.t 0], .o 50 .nilCheck [.t 49], .o 51 (.fieldAddr 1) [.T 50],
 .o 52 (.load false 1 false) [.T 51], .o 53 (.bin .add) [.t 52,.const (.int .i64 1)], .o 54 .nilCheck [.t 49], .o 55 (.fieldAddr 1) [.T 54],
 .n (.store 1) [.T 55,.t 53]] none [49,52,53]) (.seq (.region [ .o 56 (.fieldAddr 0) [.t 4], .n (.storeF 2 1) [.t 56,.const (.int .i64 5)]] none [56]) (.seq
 (.region [ .o 57 .move [.t 0], .o 58 (.call 57) [.t 57,.const (.int .i64 0)],
 .o 59 (.lit 11 1 [.int .i64 0,.int .i64 0,.str [],.str [],.int .i64 0,.nilSl,.int .i64 0,.int .i64 0,.int .i64 0,.int .i64 0,.int .i64 0] [0]) [.T 58],
 .o 60 (.fieldAddr 4) [.t 4], .n (.storeF 2 1) [.t 60,.T 59]] none [57,60]) (.seq (.region [ .o 61 .move [.t 0], .o 62 (.call 31) [.t 61],
 .o 63 (.fieldAddr 5) [.t 4], .n (.storeF 2 1) [.t 63,.T 62]] none [61,63]) (.seq (.region [ .o 64 .move [.t 0],
 .o 65 (.call 14) [.t 64,.const (.str [101,108,115,101])]] none [64]) (.cond (.T 65) [] (.seq (.region [ .o 66 .move [.t 0], .o 67 .nilCheck [.t 66],
 .o 68 (.fieldAddr 1) [.T 67], .o 69 (.load false 1 false) [.T 68], .o 70 (.bin .add) [.t 69,.const (.int .i64 1)], .o 71 .nilCheck [.t 66],
 .o 72 (.fieldAddr 1) [.T 71], .n (.store 1) [.T 72,.t 70]] none [66,69,70]) (.region [ .o 73 .move [.t 0], .o 74 (.call 31) [.t 73],
 .o 75 (.fieldAddr 6) [.t 4], .n (.storeF 2 1) [.t 75,.T 74]] none [0,73,75])) [0] .skip)))))) [] (.seq (.region [ .o 77 .move [.t 0],
 .o 78 (.call 14) [.t 77,.const (.str [119,104,105,108,101])], .o 76 .move [.t 78]] none [77,78]) (.cond (.T 76) [] (.seq (.region [ .o 79 .move [.t 0],
 .o 80 .nilCheck [.t 79], .o 81 (.fieldAddr 1) [.T 80], .o 82 (.load false 1 false) [.T 81], .o 83 (.bin .add) [.t 82,.const (.int .i64 1)],
 .o 84 .nilCheck [.t 79], .o 85 (.fieldAddr 1) [.T 84], .n (.store 1) [.T 85,.t 83]] none [79,82,83]) (.seq (.region [ .o 86 (.fieldAddr 0) [.t 4],
 .n (.storeF 2 1) [.t 86,.const (.int .i64 6)]] none [86]) (.seq (.region [ .o 87 .move [.t 0], .o 88 (.call 57) [.t 87,.const (.int .i64 0)],
 .o 89 (.lit 11 1 [.int .i64 0,.int .i64 0,.str [],.str [],.int .i64 0,.nilSl,.int .i64 0,.int .i64 0,.int .i64 0,.int .i64 0,.int .i64 0] [0]) [.T 88],
 .o 90 (.fieldAddr 4) [.t 4], .n (.storeF 2 1) [.t 90,.T 89]] none [87,90]) (.region [ .o 91 .move [.t 0], .o 92 (.call 31) [.t 91],
 .o 93 (.fieldAddr 5) [.t 4], .n (.storeF 2 1) [.t 93,.T 92]] none [0,91,93])))) [] (.seq (.region [ .o 95 .move [.t 0],
 .o 96 (.call 14) [.t 95,.const (.str [114,101,116,117,114,110])], .o 94 .move [.t 96]] none [95,96]) (.cond (.T 94) [] (.seq (.region [ .o 97 .move [.t 0],
 .o 98 .nilCheck [.t 97], .o 99 (.fieldAddr 1) [.T 98], .o 100 (.load false 1 false) [.T 99], .o 101 (.bin .add) [.t 100,.const (.int .i64 1)],
 .o 102 .nilCheck [.t 97], .o 103 (.fieldAddr 1) [.T 102], .n (.store 1) [.T 103,.t 101]] none [97,100,101]) (.seq (.region [ .o 104 (.fieldAddr 0) [.t 4],
 .n (.storeF 2 1) [.t 104,.const (.int .i64 7)]] none [104]) (.seq (.seq (.region [ .o 105 .move [.t 0], .o 106 (.call 14) [.t 105,.const (.str [59])],
 .o 107 (.un .not) [.t 106]] none [105,106]) (.cond (.T 107) [] (.region [ .o 108 .move [.t 0], .o 109 (.call 57) [.t 108,.const (.int .i64 0)],
 .o 110 (.lit 11 1 [.int .i64 0,.int .i64 0,.str [],.str [],.int .i64 0,.nilSl,.int .i64 0,.int .i64 0,.int .i64 0,.int .i64 0,.int .i64 0] [0]) [.T 109],
 .o 111 (.fieldAddr 4) [.t 4], .n (.storeF 2 1) [.t 111,.T 110]] none [108,111]) [] .skip)) (.region [ .o 112 .move [.t 0],
 .o 113 (.call 18) [.t 112,.const (.str [59])]] none [0,112,113])))) [] (.seq (.region [ .o 115 .move [.t 0],
 .o 116 (.call 14) [.t 115,.const (.str [112,114,105,110,116])], .o 114 .move [.t 116]] none [115,116]) (.cond (.T 114) [] (.seq (.region [
 .o 117 .move [.t 0], .o 118 .nilCheck [.t 117], .o 119 (.fieldAddr 1) [.T 118], .o 120 (.load false 1 false) [.T 119],
 .o 121 (.bin .add) [.t 120,.const (.int .i64 1)], .o 122 .nilCheck [.t 117], .o 123 (.fieldAddr 1) [.T 122],
 .n (.store 1) [.T 123,.t 121]] none [117,120,121]) (.seq (.region [ .o 124 (.fieldAddr 0) [.t 4], .n (.storeF 2 1) [.t 124,.const (.int .i64 8)]] none [124])
 (.seq (.region [ .o 125 .move [.t 0], .o 126 (.call 57) [.t 125,.const (.int .i64 0)],
 .o 127 (.lit 11 1 [.int .i64 0,.int .i64 0,.str [],.str [],.int .i64 0,.nilSl,.int .i64 0,.int .i64 0,.int .i64 0,.int .i64 0,.int .i64 0] [0]) [.T 126],
 .o 128 (.fieldAddr 4) [.t 4], .n (.storeF 2 1) [.t 128,.T 127]] none [125,128]) (.region [ .o 129 .move [.t 0],
 .o 130 (.call 18) [.t 129,.const (.str [59])]] none [0,129,130])))) [] (.seq (.region [ .o 10 .move [.t 0], .o 11 (.loadF 2 true 9 false) [.t 4],
 .o 12 (.call 58) [.t 10,.T 11], .n (.storeF 0 9) [.t 2,.T 12]] none [0,4,10]) .ret)))))))))))) (.seq (.region [ .o 131 (.loadF 2 true 9 false) [.t 4],
 .n (.storeF 0 9) [.t 2,.T 131]] none [4]) .ret))))) }

/-- (*runrig/runrigref3.reader).closes -/

def s51 : SFunc := { fid := 51,mode := .scp,nparams := 2,nboxes := 0,clr := [],results := [],body :=
 (.seq (.region [ .o 4 .move [.t 0], .o 5 .move [.t 1], .o 6 (.call 18) [.t 4,.t 5]] none [1,4,5,6]) (.region [ .o 7 .move [.t 0], .o 8 .nilCheck [.t 7],
 .o 9 (.fieldAddr 2) [.T 8], .o 10 (.load false 1 false) [.T 9], .o 11 (.bin .sub) [.t 10,.const (.int .i64 1)], .o 12 .nilCheck [.t 7],
 .o 13 (.fieldAddr 2) [.T 12], .n (.store 1) [.T 13,.t 11]] none [0,7,10,11])) }

/-- slices.Contains[[]string,string] -/

def s52 : SFunc := { fid := 52,mode := .pure,nparams := 2,nboxes := 0,clr := [],results := [.tmp 4 false],body :=
 (.seq (.region [ .o 4 .move [.const (.bool false)]] none [4]) (.seq (.region [ .o 5 .move [.T 0], .o 6 .move [.t 1], .o 7 (.call 59) [.T 5,.t 6],
 .o 8 (.bin .geq) [.t 7,.const (.int .i64 0)], .o 4 .move [.t 8]] none [1,6,7,8]) .ret)) }

/-- (*runrig/heads.maker).typed -/

def s53 : SFunc := { fid := 53,mode := .scp,nparams := 3,nboxes := 3,clr := [],results := [.box 6 1 3 true],body :=
 (.seq (.region [ .o 4 (.boxF 0 2) [.t 1], .o 6 (.allocF 1 [.int .i64 0,.int .i64 0,.int .i64 0]) []] none [1]) (.seq (.region [ .o 10 .move [.t 0],
 .o 11 .nilCheck [.t 10], .o 12 (.fieldAddr 0) [.T 11], .o 13 (.load false 1 false) [.T 12], .o 14 (.loadF 0 true 2 false) [.t 4],
 .o 15 (.call 60) [.T 13,.t 14], .o 9 .move [.T 15], .o 16 (.extract 0) [.t 9], .o 17 (.extract 1) [.t 9],
 .o 7 (.allocF 2 [.int .i64 0,.int .i64 0,.int .i64 0]) [], .n (.storeF 2 3) [.t 7,.t 16], .o 8 .move [.t 17]] (some []) [4,9,10,14,16,17]) (.seq (.seq
 (.region [ .o 18 .move [.t 8], .o 19 (.un .not) [.t 18]] none [8,18]) (.cond (.T 19) [] (.region [ .o 20 .move [.t 0], .o 21 .move [.t 2],
 .o 22 (.call 37) [.t 20,.t 21]] none [0,2,20,21,22]) [0,2] .skip)) (.seq (.region [ .o 23 (.loadF 2 true 3 false) [.t 7],
 .n (.storeF 1 3) [.t 6,.t 23]] none [7,23]) .ret)))) }

/-- (*runrig/typed.checker).stmt -/

def s54 : SFunc := { fid := 54,mode := .scp,nparams := 2,nboxes := 4,clr := [],results := [.box 4 1 9 true],body :=
 (.seq (.region [ .o 3 (.boxF 0 9) [.T 1], .o 4 (.allocF 1 [.int .i64 0,.str [],.str [],.int .i64 0,.nilSl,.nilSl,.nilSl,.int .i64 0,.int .i64 0]) []] none [])
 (.seq (.region [ .o 8 (.fieldAddr 0) [.t 3], .o 9 (.loadF 0 false 1 false) [.t 8], .o 10 (.fieldAddr 7) [.t 3], .o 11 (.loadF 0 false 1 false) [.t 10],
 .o 12 (.build [.int .i64 0,.str [],.str [],.int .i64 0,.nilSl,.nilSl,.nilSl,.int .i64 0,.int .i64 0] [(0,1),(7,1)]) [.t 9,.t 11],
 .o 5 (.allocF 2 [.int .i64 0,.str [],.str [],.int .i64 0,.nilSl,.nilSl,.nilSl,.int .i64 0,.int .i64 0]) [], .n (.storeF 2 9) [.t 5,.T 12]] none [8,9,10,11])
 (.seq (.region [ .o 13 (.call 61) [], .o 14 .move [.t 0], .o 15 (.loadF 0 true 9 false) [.t 3], .o 16 (.call 62) [.t 14,.T 15],
 .o 6 (.allocF 3 [.int .i64 0,.int .i64 0,.int .i64 0]) [], .n (.storeF 3 3) [.t 6,.t 13], .o 7 .move [.t 16]] (some []) [13,14,16]) (.seq (.seq (.region [
 .o 17 .move [.t 7], .o 18 .move [.t 17], .y 19 (.fieldAddr 0) [.t 3] 18, .y 20 (.loadF 0 false 1 false) [.t 19] 18,
 .y 21 (.bin .eql) [.t 20,.const (.int .i64 1)] 18, .y 22 .move [.t 21] 18, .z 23 (.fieldAddr 0) [.t 3] 22, .z 24 (.loadF 0 false 1 false) [.t 23] 22,
 .z 25 (.bin .eql) [.t 24,.const (.int .i64 2)] 22, .y 26 .pick [.t 22,.const (.bool true),.t 25] 18,
 .o 27 .pick [.t 18,.t 26,.const (.bool false)]] none [17,18,19,20,21,22,23,24,25,26]) (.cond (.T 27) [7] (.seq (.region [ .o 29 .move [.t 0],
 .o 30 .nilCheck [.t 29], .o 31 (.fieldAddr 4) [.T 30], .o 32 (.load false 1 false) [.T 31], .o 33 (.fieldAddr 2) [.t 3],
 .o 34 (.loadF 0 true 2 false) [.t 33], .o 35 (.call 60) [.T 32,.t 34], .o 28 .move [.T 35], .o 36 (.extract 0) [.t 28], .o 37 (.extract 1) [.t 28],
 .n (.storeF 3 3) [.t 6,.t 36], .o 7 .move [.t 37]] (some []) [28,29,33,34,36,37]) (.region [ .o 38 (.fieldAddr 2) [.t 3],
 .o 39 (.loadF 0 true 2 false) [.t 38], .o 40 (.fieldAddr 2) [.t 5], .n (.storeF 2 2) [.t 40,.t 39]] none [38,39,40])) [] .skip)) (.seq (.seq (.region [
 .o 41 .move [.t 7], .o 42 (.un .not) [.t 41]] none [7,41]) (.cond (.T 42) [5,6] (.seq (.region [ .o 43 .move [.t 0], .o 44 (.fieldAddr 7) [.t 3],
 .o 45 (.loadF 0 false 1 false) [.t 44], .o 46 (.call 63) [.t 43,.t 45]] none [0,3,43,44,45,46]) (.seq (.region [
 .o 47 (.build [.int .i64 0,.str [],.str [],.int .i64 0,.nilSl,.nilSl,.nilSl,.int .i64 0,.int .i64 0] []) [], .n (.storeF 1 9) [.t 4,.T 47]] none []) .ret)) []
 .skip)) (.seq (.seq (.region [ .o 48 (.fieldAddr 0) [.t 3], .o 49 (.loadF 0 false 1 false) [.t 48],
 .o 50 (.bin .eql) [.t 49,.const (.int .i64 9)]] none [48,49]) (.cond (.T 50) [] (.region [ .o 51 .move [.t 0], .o 52 (.fieldAddr 4) [.t 3],
 .o 53 (.loadF 0 false 1 false) [.t 52], .o 54 (.indexAddr 11) [.T 53,.const (.int .i64 0)], .o 55 (.load true 11 false) [.T 54],
 .o 56 (.call 64) [.t 51,.T 55],
 .o 57 (.lit 11 1 [.int .i64 0,.int .i64 0,.str [],.str [],.int .i64 0,.nilSl,.int .i64 0,.int .i64 0,.int .i64 0,.int .i64 0,.int .i64 0] [0]) [.T 56],
 .o 58 (.fieldAddr 4) [.t 5], .n (.storeF 2 1) [.t 58,.T 57]] none [51,52,58]) [] (.region [ .o 59 .move [.t 0], .o 60 (.fieldAddr 4) [.t 3],
 .o 61 (.loadF 0 false 1 false) [.t 60], .o 62 (.call 65) [.t 59,.T 61], .o 63 (.fieldAddr 4) [.t 5], .n (.storeF 2 1) [.t 63,.T 62]] none [59,60,63]))) (.seq
 (.seq (.region [ .o 64 .move [.t 0], .o 65 (.call 22) [.t 64]] none [64]) (.cond (.T 65) [0,3,5,6] (.seq (.region [
 .o 66 (.build [.int .i64 0,.str [],.str [],.int .i64 0,.nilSl,.nilSl,.nilSl,.int .i64 0,.int .i64 0] []) [], .n (.storeF 1 9) [.t 4,.T 66]] none []) .ret) []
 .skip)) (.seq (.seq (.region [ .o 67 (.fieldAddr 0) [.t 3], .o 68 (.loadF 0 false 1 false) [.t 67], .o 69 (.bin .eql) [.t 68,.const (.int .i64 1)],
 .o 70 .move [.t 69], .z 71 (.fieldAddr 0) [.t 3] 70, .z 72 (.loadF 0 false 1 false) [.t 71] 70, .z 73 (.bin .eql) [.t 72,.const (.int .i64 2)] 70,
 .o 74 .pick [.t 70,.const (.bool true),.t 73], .o 75 .move [.t 74], .z 76 (.fieldAddr 0) [.t 3] 75, .z 77 (.loadF 0 false 1 false) [.t 76] 75,
 .z 78 (.bin .eql) [.t 77,.const (.int .i64 3)] 75, .o 79 .pick [.t 75,.const (.bool true),.t 78]] none [67,68,69,70,71,72,73,74,75,76,77,78])
 (.cond (.T 79) [] (.region [ .o 80 (.fieldAddr 1) [.t 3], .o 81 (.loadF 0 false 1 false) [.t 80], .o 82 (.fieldAddr 1) [.t 5],
 .n (.storeF 2 1) [.t 82,.t 81]] none [80,81,82]) [] .skip)) (.seq (.region [ .o 84 .move [.t 0], .o 85 (.loadF 2 true 9 false) [.t 5],
 .o 86 (.loadF 3 true 3 false) [.t 6], .o 87 (.call 66) [.t 84,.T 85,.t 86], .o 83 .move [.T 87], .o 88 (.extract 0) [.t 83], .o 89 (.extract 1) [.T 83],
 .o 90 (.fieldAddr 8) [.t 5], .n (.storeF 2 1) [.t 90,.t 88], .o 7 .move [.t 89]] none [6,84,86,88,89,90]) (.seq (.seq (.region [ .o 91 .move [.t 7],
 .o 92 (.un .not) [.t 91]] none [7,91]) (.cond (.T 92) [5] (.seq (.region [ .o 93 .move [.t 0], .o 94 (.fieldAddr 7) [.t 3],
 .o 95 (.loadF 0 false 1 false) [.t 94], .o 96 (.call 63) [.t 93,.t 95]] none [0,3,93,94,95,96]) (.seq (.region [
 .o 97 (.build [.int .i64 0,.str [],.str [],.int .i64 0,.nilSl,.nilSl,.nilSl,.int .i64 0,.int .i64 0] []) [], .n (.storeF 1 9) [.t 4,.T 97]] none []) .ret)) []
 .skip)) (.seq (.seq (.region [ .o 98 (.fieldAddr 0) [.t 3], .o 99 (.loadF 0 false 1 false) [.t 98], .o 100 (.bin .eql) [.t 99,.const (.int .i64 5)],
 .o 101 .move [.t 100], .z 102 (.fieldAddr 0) [.t 3] 101, .z 103 (.loadF 0 false 1 false) [.t 102] 101, .z 104 (.bin .eql) [.t 103,.const (.int .i64 6)] 101,
 .o 105 .pick [.t 101,.const (.bool true),.t 104]] none [98,99,100,101,102,103,104]) (.cond (.T 105) [] (.region [ .o 106 .move [.t 0],
 .o 107 (.fieldAddr 5) [.t 3], .o 108 (.loadF 0 false 1 false) [.t 107], .o 109 (.call 39) [.t 106,.T 108], .o 110 (.fieldAddr 5) [.t 5],
 .n (.storeF 2 1) [.t 110,.T 109]] none [106,107,110]) [] .skip)) (.seq (.seq (.region [ .o 111 (.fieldAddr 0) [.t 3],
 .o 112 (.loadF 0 false 1 false) [.t 111], .o 113 (.bin .eql) [.t 112,.const (.int .i64 5)]] none [111,112]) (.cond (.T 113) [] (.region [ .o 114 .move [.t 0],
 .o 115 (.fieldAddr 6) [.t 3], .o 116 (.loadF 0 false 1 false) [.t 115], .o 117 (.call 39) [.t 114,.T 116], .o 118 (.fieldAddr 6) [.t 5],
 .n (.storeF 2 1) [.t 118,.T 117]] none [0,3,114,115,118]) [0,3] .skip)) (.seq (.region [ .o 119 (.loadF 2 true 9 false) [.t 5],
 .n (.storeF 1 9) [.t 4,.T 119]] none [5]) .ret))))))))))))) }

/-- runrig/runrigref3.SameExprs -/
def s55_l0 : SCode :=
 (.seq (.seq (.region [ .o 11 .move [.t 5], .o 12 .move [.t 0], .o 13 (.len .sl) [.T 12], .o 14 (.bin .lss) [.t 11,.t 13]] none [11,13]) (.cond (.T 14) []
 .skip [0,1,5] (.exit 0))) (.seq (.block 1 (.seq (.region [ .o 17 .move [.t 0], .o 18 .move [.t 5], .o 19 (.indexAddr 11) [.T 17,.t 18],
 .o 20 (.load true 11 false) [.T 19], .o 21 .move [.t 1], .o 22 .move [.t 5], .o 23 (.indexAddr 11) [.T 21,.t 22], .o 24 (.load true 11 false) [.T 23],
 .o 25 (.call 67) [.T 20,.T 24], .o 26 (.un .not) [.t 25]] (some []) [18,22,25]) (.cond (.T 26) [0,1,5] (.seq (.region [
 .o 4 .move [.const (.bool false)]] none []) .ret) [] .skip))) (.region [ .o 15 .move [.t 5], .o 16 (.bin .add) [.t 15,.const (.int .i64 1)],
 .o 5 .move [.t 16]] none [15,16])))
def s55 : SFunc := { fid := 55,mode := .pure,nparams := 2,nboxes := 0,clr := [],results := [.tmp 4 false],body :=
 (.seq (.region [ .o 4 .move [.const (.bool false)]] none [4]) (.seq (.seq (.region [ .o 6 .move [.t 0], .o 7 (.len .sl) [.T 6], .o 8 .move [.t 1],
 .o 9 (.len .sl) [.T 8], .o 10 (.bin .neq) [.t 7,.t 9]] none [7,9]) (.cond (.T 10) [0,1] (.seq (.region [ .o 4 .move [.const (.bool false)]] none []) .ret) []
 .skip)) (.seq (.seq (.region [ .o 5 .move [.const (.int .i64 0)]] none []) (.block 0 (.loop s55_l0))) (.seq (.region [
 .o 4 .move [.const (.bool true)]] none []) .ret)))) }

/-- runrig/runrigref2.words -/

def s56 : SFunc := { fid := 56,mode := .pure,nparams := 0,nboxes := 0,clr := [],results := [.tmp 0 true],body :=
 (.seq (.region [ .o 0 .move [.const .nilSl]] none [0]) (.seq (.region [
 .o 1 (.lit 1 18 [.str []] [0,1,2,3,4,5,6,7,8,9,10,11,12,13,14,15,16,17]) [.const (.str [114,101,99,111,114,100]),.const (.str [103,108,111,98,97,108]),.const (.str [102,117,110,99]),.const (.str [118,97,114]),.const (.str [108,101,116]),.const (.str [105,102]),.const (.str [101,108,115,101]),.const (.str [119,104,105,108,101]),.const (.str [114,101,116,117,114,110]),.const (.str [112,114,105,110,116]),.const (.str [110,117,108,108]),.const (.str [110,101,119]),.const (.str [108,101,110]),.const (.str [114,101,97,100]),.const (.str [116,114,117,101]),.const (.str [102,97,108,115,101]),.const (.str [105,110,116]),.const (.str [98,111,111,108])],
 .o 0 .move [.T 1]] none []) .ret)) }

/-- (*runrig/runrigref3.reader).expr -/
def s57_l0 : SCode :=
 (.seq (.seq (.region [ .o 16 .move [.t 0], .o 17 (.call 12) [.t 16], .o 18 .move [.t 17], .y 19 .move [.t 1] 18, .y 20 .move [.t 0] 18,
 .y 21 (.call 13) [.t 20] 18, .y 22 (.call 69) [.t 19,.t 21] 18, .y 23 (.bin .neq) [.t 22,.const (.int .i64 0)] 18,
 .o 24 .pick [.t 18,.t 23,.const (.bool false)]] none [16,17,18,19,20,21,22,23]) (.cond (.T 24) [] .skip [0,1] (.exit 0))) (.block 1 (.seq (.region [
 .o 25 .move [.t 0], .o 26 (.call 13) [.t 25], .o 6 (.allocF 2 [.int .i64 0,.str [],.int .i64 0,.int .i64 0]) [], .n (.storeF 2 4) [.t 6,.t 26]] none [25,26])
 (.seq (.region [ .o 27 .move [.t 0], .o 28 .nilCheck [.t 27], .o 29 (.fieldAddr 1) [.T 28], .o 30 (.load false 1 false) [.T 29],
 .o 31 (.bin .add) [.t 30,.const (.int .i64 1)], .o 32 .nilCheck [.t 27], .o 33 (.fieldAddr 1) [.T 32], .n (.store 1) [.T 33,.t 31]] none [27,30,31]) (.seq
 (.region [ .o 34 .move [.t 0], .o 35 .move [.t 1], .o 36 (.bin .add) [.t 35,.const (.int .i64 1)], .o 37 (.call 57) [.t 34,.t 36],
 .o 7 (.allocF 3 [.int .i64 0,.int .i64 0,.str [],.str [],.int .i64 0,.nilSl,.int .i64 0,.int .i64 0,.int .i64 0,.int .i64 0,.int .i64 0]) [],
 .n (.storeF 3 11) [.t 7,.T 37]] none [34,35,36]) (.region [ .o 38 .move [.t 1], .o 39 (.loadF 2 true 4 false) [.t 6], .o 40 (.call 69) [.t 38,.t 39],
 .o 41 (.loadF 1 true 11 false) [.t 5], .o 42 (.loadF 3 true 11 false) [.t 7],
 .o 43 (.lit 11 2 [.int .i64 0,.int .i64 0,.str [],.str [],.int .i64 0,.nilSl,.int .i64 0,.int .i64 0,.int .i64 0,.int .i64 0,.int .i64 0] [0,1]) [.T 41,.T 42],
 .o 44 (.fieldAddr 3) [.t 6], .o 45 (.loadF 2 false 1 false) [.t 44],
 .o 46 (.build [.int .i64 0,.int .i64 0,.str [],.str [],.int .i64 0,.nilSl,.int .i64 0,.int .i64 0,.int .i64 0,.int .i64 0,.int .i64 0] [(0,1),(5,1),(6,1)]) [.t 40,.T 43,.t 45],
 .n (.storeF 1 11) [.t 5,.T 46]] (some []) [6,7,38,39,40,44,45]))))))
def s57 : SFunc := { fid := 57,mode := .scp,nparams := 2,nboxes := 4,clr := [],results := [.box 4 0 11 true],body :=
 (.seq (.region [
 .o 4 (.allocF 0 [.int .i64 0,.int .i64 0,.str [],.str [],.int .i64 0,.nilSl,.int .i64 0,.int .i64 0,.int .i64 0,.int .i64 0,.int .i64 0]) []] none []) (.seq
 (.seq (.region [ .o 8 .move [.t 1], .o 9 (.bin .eql) [.t 8,.const (.int .i64 5)]] none [8]) (.cond (.T 9) [1] (.seq (.region [ .o 10 .move [.t 0],
 .o 11 (.call 68) [.t 10], .n (.storeF 0 11) [.t 4,.T 11]] none [0,10]) .ret) [] .skip)) (.seq (.region [ .o 12 .move [.t 0], .o 13 .move [.t 1],
 .o 14 (.bin .add) [.t 13,.const (.int .i64 1)], .o 15 (.call 57) [.t 12,.t 14],
 .o 5 (.allocF 1 [.int .i64 0,.int .i64 0,.str [],.str [],.int .i64 0,.nilSl,.int .i64 0,.int .i64 0,.int .i64 0,.int .i64 0,.int .i64 0]) [],
 .n (.storeF 1 11) [.t 5,.T 15]] none [12,13,14]) (.seq (.block 0 (.loop s57_l0)) (.seq (.region [ .o 47 (.loadF 1 true 11 false) [.t 5],
 .n (.storeF 0 11) [.t 4,.T 47]] none [5]) .ret))))) }

/-- (*runrig/runrigref3.reader).plain -/

def s58 : SFunc := { fid := 58,mode := .scp,nparams := 2,nboxes := 4,clr := [],results := [.box 4 1 9 true],body :=
 (.seq (.region [ .o 3 (.boxF 0 9) [.T 1], .o 4 (.allocF 1 [.int .i64 0,.str [],.str [],.int .i64 0,.nilSl,.nilSl,.nilSl,.int .i64 0,.int .i64 0]) []] none [])
 (.seq (.region [ .o 7 .move [.t 0], .o 8 (.call 57) [.t 7,.const (.int .i64 0)],
 .o 5 (.allocF 2 [.int .i64 0,.int .i64 0,.str [],.str [],.int .i64 0,.nilSl,.int .i64 0,.int .i64 0,.int .i64 0,.int .i64 0,.int .i64 0]) [],
 .n (.storeF 2 11) [.t 5,.T 8]] none [7]) (.seq (.seq (.region [ .o 9 .move [.t 0], .o 10 (.call 14) [.t 9,.const (.str [61])],
 .o 11 (.un .not) [.t 10]] none [9,10]) (.cond (.T 11) [] (.seq (.region [ .o 12 (.fieldAddr 0) [.t 3],
 .n (.storeF 0 1) [.t 12,.const (.int .i64 9)]] none [12]) (.seq (.region [ .o 13 (.loadF 2 true 11 false) [.t 5],
 .o 14 (.lit 11 1 [.int .i64 0,.int .i64 0,.str [],.str [],.int .i64 0,.nilSl,.int .i64 0,.int .i64 0,.int .i64 0,.int .i64 0,.int .i64 0] [0]) [.T 13],
 .o 15 (.fieldAddr 4) [.t 3], .n (.storeF 0 1) [.t 15,.T 14]] none [15]) (.seq (.seq (.region [ .o 16 .move [.t 0],
 .o 17 (.call 14) [.t 16,.const (.str [59])], .o 18 .move [.t 17], .y 19 (.fieldAddr 0) [.t 5] 18, .y 20 (.loadF 2 false 1 false) [.t 19] 18,
 .y 21 (.bin .neq) [.t 20,.const (.int .i64 7)] 18, .o 22 .pick [.t 18,.t 21,.const (.bool false)]] none [5,16,17,18,19,20,21]) (.cond (.T 22) [] (.region [
 .o 23 .move [.t 0], .o 24 (.call 15) [.t 23,.const (.int .i64 2)]] none [23,24]) [] .skip)) (.seq (.region [ .o 25 .move [.t 0],
 .o 26 (.call 18) [.t 25,.const (.str [59])]] none [0,25,26]) (.seq (.region [ .o 27 (.loadF 0 true 9 false) [.t 3], .n (.storeF 1 9) [.t 4,.T 27]] none [3])
 .ret))))) [] .skip)) (.seq (.seq (.region [ .o 28 (.fieldAddr 0) [.t 5], .o 29 (.loadF 2 false 1 false) [.t 28],
 .o 30 (.bin .neq) [.t 29,.const (.int .i64 4)], .o 31 .move [.t 30], .y 32 (.fieldAddr 0) [.t 5] 31, .y 33 (.loadF 2 false 1 false) [.t 32] 31,
 .y 34 (.bin .neq) [.t 33,.const (.int .i64 5)] 31, .o 35 .pick [.t 31,.t 34,.const (.bool false)], .o 36 .move [.t 35], .y 37 (.fieldAddr 0) [.t 5] 36,
 .y 38 (.loadF 2 false 1 false) [.t 37] 36, .y 39 (.bin .neq) [.t 38,.const (.int .i64 6)] 36,
 .o 40 .pick [.t 36,.t 39,.const (.bool false)]] none [28,29,30,31,32,33,34,35,36,37,38,39]) (.cond (.T 40) [] (.region [ .o 41 .move [.t 0],
 .o 42 (.call 15) [.t 41,.const (.int .i64 2)]] none [41,42]) [] .skip)) (.seq (.region [ .o 43 .move [.t 0],
 .o 44 (.call 18) [.t 43,.const (.str [61])]] none [43,44]) (.seq (.region [ .o 45 .move [.t 0], .o 46 (.call 57) [.t 45,.const (.int .i64 0)],
 .o 6 (.allocF 3 [.int .i64 0,.int .i64 0,.str [],.str [],.int .i64 0,.nilSl,.int .i64 0,.int .i64 0,.int .i64 0,.int .i64 0,.int .i64 0]) [],
 .n (.storeF 3 11) [.t 6,.T 46]] none [45]) (.seq (.region [ .o 47 .move [.t 0], .o 48 (.call 18) [.t 47,.const (.str [59])]] none [0,47,48]) (.seq (.seq
 (.region [ .o 49 (.fieldAddr 0) [.t 5], .o 50 (.loadF 2 false 1 false) [.t 49], .o 51 (.bin .eql) [.t 50,.const (.int .i64 4)]] none [49,50])
 (.cond (.T 51) [] (.seq (.region [ .o 52 (.fieldAddr 0) [.t 3], .n (.storeF 0 1) [.t 52,.const (.int .i64 3)]] none [52]) (.seq (.region [
 .o 53 (.fieldAddr 2) [.t 5], .o 54 (.loadF 2 false 1 false) [.t 53], .o 55 (.fieldAddr 1) [.t 3], .n (.storeF 0 1) [.t 55,.t 54]] none [5,53,54,55]) (.seq
 (.region [ .o 56 (.loadF 3 true 11 false) [.t 6],
 .o 57 (.lit 11 1 [.int .i64 0,.int .i64 0,.str [],.str [],.int .i64 0,.nilSl,.int .i64 0,.int .i64 0,.int .i64 0,.int .i64 0,.int .i64 0] [0]) [.T 56],
 .o 58 (.fieldAddr 4) [.t 3], .n (.storeF 0 1) [.t 58,.T 57]] none [6,58]) (.seq (.region [ .o 59 (.loadF 0 true 9 false) [.t 3],
 .n (.storeF 1 9) [.t 4,.T 59]] none [3]) .ret)))) [] .skip)) (.seq (.region [ .o 60 (.fieldAddr 0) [.t 3],
 .n (.storeF 0 1) [.t 60,.const (.int .i64 4)]] none [60]) (.seq (.region [ .o 61 (.loadF 2 true 11 false) [.t 5], .o 62 (.loadF 3 true 11 false) [.t 6],
 .o 63 (.lit 11 2 [.int .i64 0,.int .i64 0,.str [],.str [],.int .i64 0,.nilSl,.int .i64 0,.int .i64 0,.int .i64 0,.int .i64 0,.int .i64 0] [0,1]) [.T 61,.T 62],
 .o 64 (.fieldAddr 4) [.t 3], .n (.storeF 0 1) [.t 64,.T 63]] none [5,6,64]) (.seq (.region [ .o 65 (.loadF 0 true 9 false) [.t 3],
 .n (.storeF 1 9) [.t 4,.T 65]] none [3]) .ret))))))))))) }

/-- slices.Index[[]string,string] -/
def s59_l0 : SCode :=
 (.seq (.region [ .o 9 (.bin .lss) [.t 8,.t 7]] none []) (.seq (.cond (.T 9) [] .skip [0,1,7,8] (.exit 0)) (.seq (.block 1 (.seq (.region [ .o 10 .move [.t 8],
 .o 5 .move [.t 10]] none [10]) (.seq (.region [ .o 11 .move [.t 1], .o 12 .move [.t 0], .o 13 .move [.t 5], .o 14 (.indexAddr 1) [.T 12,.t 13],
 .o 15 (.load false 1 false) [.T 14], .o 16 (.bin .eql) [.t 11,.t 15]] none [11,13,15]) (.cond (.T 16) [0,1,7,8] (.seq (.region [ .o 17 .move [.t 5],
 .o 4 .move [.t 17]] none [5,17]) .ret) [5] .skip)))) (.region [ .o 18 (.bin .add) [.t 8,.const (.int .i64 1)], .o 8 .move [.t 18]] none [18]))))
def s59 : SFunc := { fid := 59,mode := .pure,nparams := 2,nboxes := 0,clr := [],results := [.tmp 4 false],body :=
 (.seq (.region [ .o 4 .move [.const (.int .i64 0)]] none [4]) (.seq (.seq (.region [ .o 6 .move [.t 0], .o 7 (.len .sl) [.T 6],
 .o 8 .move [.const (.int .i64 0)]] none []) (.block 0 (.loop s59_l0))) (.seq (.region [ .o 4 .move [.const (.int .i64 (-1))]] none []) .ret))) }

/-- runrig/heads.Type -/

def s60 : SFunc := { fid := 60,mode := .pure,nparams := 2,nboxes := 2,clr := [],results := [.box 4 1 3 true,.tmp 5 false],body :=
 (.seq (.region [ .o 3 (.boxF 0 2) [.t 1], .o 4 (.allocF 1 [.int .i64 0,.int .i64 0,.int .i64 0]) [], .o 5 .move [.const (.bool false)]] none [1,5]) (.seq
 (.seq (.region [ .o 7 (.fieldAddr 1) [.t 3], .o 8 (.loadF 0 false 1 false) [.t 7], .o 9 (.bin .lss) [.t 8,.const (.int .i64 0)], .o 10 .move [.t 9],
 .z 11 (.fieldAddr 1) [.t 3] 10, .z 12 (.loadF 0 false 1 false) [.t 11] 10, .z 13 (.bin .gtr) [.t 12,.const (.int .i64 3)] 10,
 .o 14 .pick [.t 10,.const (.bool true),.t 13]] none [7,8,9,10,11,12,13]) (.cond (.T 14) [0,3] (.seq (.region [
 .o 15 (.build [.int .i64 0,.int .i64 0,.int .i64 0] []) [], .n (.storeF 1 3) [.t 4,.t 15], .o 5 .move [.const (.bool false)]] none [15]) .ret) [] .skip))
 (.seq (.seq (.region [ .o 16 (.fieldAddr 0) [.t 3], .o 17 (.loadF 0 false 1 false) [.t 16]] none [16]) (.block 0 (.seq (.region [
 .o 19 (.bin .eql) [.t 17,.const (.str [105,110,116])], .o 18 .move [.t 19]] none [19]) (.cond (.T 18) [0,17] (.seq (.region [ .o 20 (.fieldAddr 1) [.t 3],
 .o 21 (.loadF 0 false 1 false) [.t 20], .o 22 (.build [.int .i64 0,.int .i64 0,.int .i64 0] [(0,1),(2,1)]) [.const (.int .i64 1),.t 21],
 .n (.storeF 1 3) [.t 4,.t 22], .o 5 .move [.const (.bool true)]] none [3,20,21,22]) .ret) [] (.seq (.region [
 .o 24 (.bin .eql) [.t 17,.const (.str [98,111,111,108])], .o 23 .move [.t 24]] none [17,24]) (.cond (.T 23) [0] (.seq (.region [ .o 25 (.fieldAddr 1) [.t 3],
 .o 26 (.loadF 0 false 1 false) [.t 25], .o 27 (.build [.int .i64 0,.int .i64 0,.int .i64 0] [(0,1),(2,1)]) [.const (.int .i64 2),.t 26],
 .n (.storeF 1 3) [.t 4,.t 27], .o 5 .move [.const (.bool true)]] none [3,25,26,27]) .ret) [] .skip)))))) (.seq (.region [ .o 28 .move [.T 0],
 .o 29 (.fieldAddr 0) [.t 3], .o 30 (.loadF 0 false 1 false) [.t 29], .o 31 (.call 59) [.T 28,.t 30], .o 6 .move [.t 31]] none [29,30,31]) (.seq (.seq
 (.region [ .o 32 .move [.t 6], .o 33 (.bin .lss) [.t 32,.const (.int .i64 0)]] none [32]) (.cond (.T 33) [3,6] (.seq (.region [
 .o 34 (.build [.int .i64 0,.int .i64 0,.int .i64 0] []) [], .n (.storeF 1 3) [.t 4,.t 34], .o 5 .move [.const (.bool false)]] none [34]) .ret) [] .skip))
 (.seq (.region [ .o 35 .move [.t 6], .o 36 (.fieldAddr 1) [.t 3], .o 37 (.loadF 0 false 1 false) [.t 36],
 .o 38 (.build [.int .i64 0,.int .i64 0,.int .i64 0] [(0,1),(1,1),(2,1)]) [.const (.int .i64 3),.t 35,.t 37], .n (.storeF 1 3) [.t 4,.t 38],
 .o 5 .move [.const (.bool true)]] none [3,6,35,36,37,38]) .ret)))))) }

/-- runrig/typed.none -/

def s61 : SFunc := { fid := 61,mode := .pure,nparams := 0,nboxes := 1,clr := [],results := [.box 0 0 3 true],body :=
 (.seq (.region [ .o 0 (.allocF 0 [.int .i64 0,.int .i64 0,.int .i64 0]) []] none []) (.seq (.region [
 .o 1 (.build [.int .i64 0,.int .i64 0,.int .i64 0] []) [], .n (.storeF 0 3) [.t 0,.t 1]] none [1]) .ret)) }

/-- (*runrig/typed.checker).isStmt -/

def s62 : SFunc := { fid := 62,mode := .scp,nparams := 2,nboxes := 1,clr := [],results := [.tmp 4 false],body :=
 (.seq (.region [ .o 3 (.boxF 0 9) [.T 1], .o 4 .move [.const (.bool false)]] none [4]) (.seq (.seq (.region [ .o 5 (.fieldAddr 0) [.t 3],
 .o 6 (.loadF 0 false 1 false) [.t 5]] none [5]) (.block 0 (.seq (.region [ .o 8 (.bin .eql) [.t 6,.const (.int .i64 1)], .o 7 .move [.t 8]] none [8])
 (.cond (.T 7) [0,6] (.seq (.region [ .o 9 (.fieldAddr 4) [.t 3], .o 10 (.loadF 0 false 1 false) [.t 9], .o 11 (.len .sl) [.T 10],
 .o 12 (.bin .eql) [.t 11,.const (.int .i64 0)], .o 4 .move [.t 12]] none [3,9,11,12]) .ret) [] (.seq (.region [ .o 14 (.bin .eql) [.t 6,.const (.int .i64 4)],
 .o 13 .move [.t 14]] none [14]) (.cond (.T 13) [0,6] (.seq (.region [ .o 15 (.fieldAddr 4) [.t 3], .o 16 (.loadF 0 false 1 false) [.t 15],
 .o 17 (.len .sl) [.T 16], .o 18 (.bin .eql) [.t 17,.const (.int .i64 2)], .o 19 .move [.t 18], .y 20 (.fieldAddr 4) [.t 3] 19,
 .y 21 (.loadF 0 false 1 false) [.t 20] 19, .y 22 (.indexAddr 11) [.T 21,.const (.int .i64 0)] 19, .y 23 (.fieldAddr 0) [.T 22] 19,
 .y 24 (.load false 1 false) [.T 23] 19, .y 25 (.bin .eql) [.t 24,.const (.int .i64 5)] 19, .y 26 .move [.t 25] 19, .z 27 (.fieldAddr 4) [.t 3] 26,
 .z 28 (.loadF 0 false 1 false) [.t 27] 26, .z 29 (.indexAddr 11) [.T 28,.const (.int .i64 0)] 26, .z 30 (.fieldAddr 0) [.T 29] 26,
 .z 31 (.load false 1 false) [.T 30] 26, .z 32 (.bin .eql) [.t 31,.const (.int .i64 6)] 26, .y 33 .pick [.t 26,.const (.bool true),.t 32] 19,
 .o 34 .pick [.t 19,.t 33,.const (.bool false)], .o 4 .move [.t 34]] none [3,15,17,18,19,20,21,22,23,24,25,26,27,28,29,30,31,32,33,34]) .ret) [] (.seq
 (.region [ .o 36 (.bin .eql) [.t 6,.const (.int .i64 7)], .o 35 .move [.t 36]] none [36]) (.cond (.T 35) [6] (.seq (.region [ .o 37 (.fieldAddr 4) [.t 3],
 .o 38 (.loadF 0 false 1 false) [.t 37], .o 39 (.len .sl) [.T 38], .o 40 (.bin .eql) [.t 39,.const (.int .i64 1)], .o 41 .move [.t 40], .y 42 .move [.t 0] 41,
 .y 43 .nilCheck [.t 42] 41, .y 44 (.fieldAddr 5) [.T 43] 41, .y 45 (.fieldAddr 2) [.T 44] 41, .y 46 (.load false 1 false) [.T 45] 41,
 .o 47 .pick [.t 41,.t 46,.const (.bool false)], .o 48 .move [.t 47], .z 49 (.fieldAddr 4) [.t 3] 48, .z 50 (.loadF 0 false 1 false) [.t 49] 48,
 .z 51 (.len .sl) [.T 50] 48, .z 52 (.bin .eql) [.t 51,.const (.int .i64 0)] 48, .z 53 .move [.t 52] 48, .y 54 .move [.t 0] 53, .y 55 .nilCheck [.t 54] 53,
 .y 56 (.fieldAddr 5) [.T 55] 53, .y 57 (.fieldAddr 2) [.T 56] 53, .y 58 (.load false 1 false) [.T 57] 53, .y 59 (.un .not) [.t 58] 53,
 .z 60 .pick [.t 53,.t 59,.const (.bool false)] 48, .o 61 .pick [.t 48,.const (.bool true),.t 60],
 .o 4 .move [.t 61]] none [0,3,37,39,40,41,42,43,44,45,46,47,48,49,50,51,52,53,54,55,56,57,58,59,60,61]) .ret) [0] (.seq (.region [
 .o 63 (.bin .eql) [.t 6,.const (.int .i64 9)], .o 62 .move [.t 63]] none [63]) (.cond (.T 62) [6] (.seq (.region [ .o 64 (.fieldAddr 4) [.t 3],
 .o 65 (.loadF 0 false 1 false) [.t 64], .o 66 (.len .sl) [.T 65], .o 67 (.bin .eql) [.t 66,.const (.int .i64 1)], .o 68 .move [.t 67],
 .y 69 (.fieldAddr 4) [.t 3] 68, .y 70 (.loadF 0 false 1 false) [.t 69] 68, .y 71 (.indexAddr 11) [.T 70,.const (.int .i64 0)] 68,
 .y 72 (.fieldAddr 0) [.T 71] 68, .y 73 (.load false 1 false) [.T 72] 68, .y 74 (.bin .eql) [.t 73,.const (.int .i64 7)] 68,
 .o 75 .pick [.t 68,.t 74,.const (.bool false)], .o 4 .move [.t 75]] none [3,64,66,67,68,69,70,71,72,73,74,75]) .ret) [] (.seq (.seq (.region [
 .o 77 (.bin .eql) [.t 6,.const (.int .i64 2)], .o 76 .move [.t 77]] none [77]) (.cond (.t 76) [6] .skip [76] (.seq (.region [
 .o 78 (.bin .eql) [.t 6,.const (.int .i64 3)], .o 76 .move [.t 78]] none [78]) (.cond (.t 76) [6] .skip [76] (.seq (.region [
 .o 79 (.bin .eql) [.t 6,.const (.int .i64 5)], .o 76 .move [.t 79]] none [79]) (.cond (.t 76) [6] .skip [76] (.seq (.region [
 .o 80 (.bin .eql) [.t 6,.const (.int .i64 6)], .o 76 .move [.t 80]] none [80]) (.cond (.t 76) [6] .skip [76] (.region [
 .o 81 (.bin .eql) [.t 6,.const (.int .i64 8)], .o 76 .move [.t 81]] none [6,81]))))))))) (.cond (.T 76) [] (.seq (.region [ .o 82 (.fieldAddr 4) [.t 3],
 .o 83 (.loadF 0 false 1 false) [.t 82], .o 84 (.len .sl) [.T 83], .o 85 (.bin .eql) [.t 84,.const (.int .i64 1)], .o 4 .move [.t 85]] none [3,82,84,85])
 .ret) [3] .skip)))))))))))) (.seq (.region [ .o 4 .move [.const (.bool false)]] none []) .ret))) }

/-- (*runrig/typed.checker).fail -/

def s63 : SFunc := { fid := 63,mode := .scp,nparams := 2,nboxes := 0,clr := [],results := [],body :=
 (.seq (.region [ .o 4 .move [.t 0], .o 5 (.call 22) [.t 4], .o 6 (.un .not) [.t 5]] none [4,5]) (.cond (.T 6) [] (.region [ .o 7 .move [.t 0],
 .o 8 .move [.t 1], .o 9 (.build [.int .i64 0,.int .i64 0] [(0,1),(1,1)]) [.const (.int .i64 3),.t 8], .o 10 .nilCheck [.t 7], .o 11 (.fieldAddr 12) [.T 10],
 .n (.store 2) [.T 11,.t 9]] none [0,1,7,8,9]) [0,1] .skip)) }

/-- (*runrig/typed.checker).expr -/

def s64 : SFunc := { fid := 64,mode := .scp,nparams := 2,nboxes := 3,clr := [],results := [.box 4 1 11 true],body :=
 (.seq (.region [ .o 3 (.boxF 0 11) [.T 1],
 .o 4 (.allocF 1 [.int .i64 0,.int .i64 0,.str [],.str [],.int .i64 0,.nilSl,.int .i64 0,.int .i64 0,.int .i64 0,.int .i64 0,.int .i64 0]) []] none []) (.seq
 (.seq (.region [ .o 7 (.loadF 0 true 11 false) [.t 3], .o 8 (.call 70) [.T 7], .o 9 (.un .not) [.t 8]] none [8]) (.cond (.T 9) [] (.seq (.region [
 .o 10 .move [.t 0], .o 11 (.fieldAddr 6) [.t 3], .o 12 (.loadF 0 false 1 false) [.t 11], .o 13 (.call 63) [.t 10,.t 12]] none [0,3,10,11,12,13]) (.seq
 (.region [ .o 14 (.build [.int .i64 0,.int .i64 0,.str [],.str [],.int .i64 0,.nilSl,.int .i64 0,.int .i64 0,.int .i64 0,.int .i64 0,.int .i64 0] []) [],
 .n (.storeF 1 11) [.t 4,.T 14]] none []) .ret)) [] .skip)) (.seq (.region [ .o 15 (.loadF 0 true 11 false) [.t 3], .o 16 (.call 71) [.T 15],
 .o 5 (.allocF 2 [.int .i64 0,.int .i64 0,.str [],.str [],.int .i64 0,.nilSl,.int .i64 0,.int .i64 0,.int .i64 0,.int .i64 0,.int .i64 0]) [],
 .n (.storeF 2 11) [.t 5,.T 16]] none []) (.seq (.region [ .o 17 .move [.t 0], .o 18 (.fieldAddr 5) [.t 3], .o 19 (.loadF 0 false 1 false) [.t 18],
 .o 20 (.call 65) [.t 17,.T 19], .o 21 (.fieldAddr 5) [.t 5], .n (.storeF 2 1) [.t 21,.T 20]] none [17,18,21]) (.seq (.seq (.region [ .o 22 .move [.t 0],
 .o 23 (.call 22) [.t 22]] none [22]) (.cond (.T 23) [0,3,5] (.seq (.region [
 .o 24 (.build [.int .i64 0,.int .i64 0,.str [],.str [],.int .i64 0,.nilSl,.int .i64 0,.int .i64 0,.int .i64 0,.int .i64 0,.int .i64 0] []) [],
 .n (.storeF 1 11) [.t 4,.T 24]] none []) .ret) [] .skip)) (.seq (.region [ .o 6 .move [.const (.bool false)]] none [6]) (.seq (.region [ .o 26 .move [.t 0],
 .o 27 (.loadF 2 true 11 false) [.t 5], .o 28 (.call 72) [.t 26,.T 27], .o 25 .move [.T 28], .o 29 (.extract 0) [.t 25], .o 30 (.extract 1) [.t 25],
 .o 31 (.extract 2) [.T 25], .o 32 (.fieldAddr 7) [.t 5], .n (.storeF 2 3) [.t 32,.t 29], .o 33 (.fieldAddr 10) [.t 5], .n (.storeF 2 1) [.t 33,.t 30],
 .o 6 .move [.t 31]] none [26,29,30,31,32,33]) (.seq (.seq (.region [ .o 34 .move [.t 6], .o 35 (.un .not) [.t 34]] none [6,34]) (.cond (.T 35) [] (.region [
 .o 36 .move [.t 0], .o 37 (.fieldAddr 6) [.t 3], .o 38 (.loadF 0 false 1 false) [.t 37], .o 39 (.call 63) [.t 36,.t 38]] none [0,3,36,37,38,39]) [0,3] .skip))
 (.seq (.region [ .o 40 (.loadF 2 true 11 false) [.t 5], .n (.storeF 1 11) [.t 4,.T 40]] none [5]) .ret))))))))) }

/-- (*runrig/typed.checker).values -/
def s65_l0 : SCode :=
 (.seq (.region [ .o 11 (.bin .lss) [.t 10,.t 9]] none []) (.seq (.cond (.T 11) [] .skip [0,8,9,10] (.exit 0)) (.seq (.block 1 (.seq (.region [
 .o 12 (.indexAddr 11) [.t 8,.t 10], .o 13 (.load true 11 false) [.T 12],
 .o 7 (.allocF 0 [.int .i64 0,.int .i64 0,.str [],.str [],.int .i64 0,.nilSl,.int .i64 0,.int .i64 0,.int .i64 0,.int .i64 0,.int .i64 0]) [],
 .n (.storeF 0 11) [.t 7,.T 13]] none []) (.seq (.seq (.region [ .o 14 .move [.t 0], .o 15 (.call 22) [.t 14]] none [14]) (.cond (.T 15) [0,5,7,8,9,10] (.seq
 (.region [ .o 4 .move [.const .nilSl]] none []) .ret) [] .skip)) (.region [ .o 16 .move [.T 5], .o 17 .move [.t 0], .o 18 (.loadF 0 true 11 false) [.t 7],
 .o 19 (.call 73) [.t 17,.T 18],
 .o 20 (.lit 11 1 [.int .i64 0,.int .i64 0,.str [],.str [],.int .i64 0,.nilSl,.int .i64 0,.int .i64 0,.int .i64 0,.int .i64 0,.int .i64 0] [0]) [.T 19],
 .o 21 (.append 11 120) [.T 16,.T 20], .o 5 .move [.T 21]] none [7,17])))) (.region [ .o 22 (.bin .add) [.t 10,.const (.int .i64 1)],
 .o 10 .move [.t 22]] none [22]))))
def s65 : SFunc := { fid := 65,mode := .scp,nparams := 2,nboxes := 1,clr := [],results := [.tmp 4 true],body :=
 (.seq (.region [ .o 4 .move [.const .nilSl]] none [4]) (.seq (.region [ .o 5 .move [.const .nilSl]] none []) (.seq (.seq (.region [ .o 8 .move [.T 1],
 .o 9 (.len .sl) [.t 8], .o 10 .move [.const (.int .i64 0)]] none []) (.block 0 (.loop s65_l0))) (.seq (.region [ .o 23 .move [.T 5],
 .o 4 .move [.T 23]] none []) .ret)))) }

/-- (*runrig/typed.checker).fits -/

def s66 : SFunc := { fid := 66,mode := .scp,nparams := 3,nboxes := 3,clr := [],results := [.tmp 6 false,.tmp 7 false],body :=
 (.seq (.region [ .o 4 (.boxF 0 9) [.T 1], .o 5 (.boxF 1 3) [.t 2], .o 6 .move [.const (.int .i64 0)], .o 7 .move [.const (.bool false)]] none [2,6,7]) (.seq
 (.seq (.region [ .o 11 (.fieldAddr 0) [.t 4], .o 12 (.loadF 0 false 1 false) [.t 11]] none [11]) (.block 0 (.seq (.region [
 .o 14 (.bin .eql) [.t 12,.const (.int .i64 1)], .o 13 .move [.t 14]] none [14]) (.cond (.T 13) [12] (.seq (.region [ .o 15 .move [.t 0],
 .o 16 (.fieldAddr 1) [.t 4], .o 17 (.loadF 0 false 1 false) [.t 16], .o 18 (.loadF 1 true 3 false) [.t 5], .o 19 (.call 74) [.t 15,.t 17,.t 18],
 .o 20 (.extract 0) [.t 19], .o 21 (.extract 1) [.T 19], .o 6 .move [.t 20], .o 7 .move [.t 21]] none [0,4,5,15,16,17,18,20,21]) .ret) [] (.seq (.region [
 .o 23 (.bin .eql) [.t 12,.const (.int .i64 2)], .o 22 .move [.t 23]] none [23]) (.cond (.T 22) [12] (.seq (.seq (.region [ .o 24 (.fieldAddr 4) [.t 4],
 .o 25 (.loadF 0 false 1 false) [.t 24], .o 26 (.indexAddr 11) [.T 25,.const (.int .i64 0)], .o 27 (.fieldAddr 7) [.T 26], .o 28 (.load true 3 false) [.T 27],
 .o 29 (.loadF 1 true 3 false) [.t 5], .o 30 (.eqv (.flat [.int,.int,.int]) true) [.t 28,.t 29]] (some []) [24,28,29]) (.cond (.T 30) [0,4,5] (.seq (.region [
 .o 6 .move [.const (.int .i64 0)], .o 7 .move [.const (.bool false)]] none []) .ret) [] .skip)) (.seq (.region [ .o 31 .move [.t 0],
 .o 32 (.fieldAddr 1) [.t 4], .o 33 (.loadF 0 false 1 false) [.t 32], .o 34 (.loadF 1 true 3 false) [.t 5], .o 35 (.call 74) [.t 31,.t 33,.t 34],
 .o 36 (.extract 0) [.t 35], .o 37 (.extract 1) [.T 35], .o 6 .move [.t 36], .o 7 .move [.t 37]] none [0,4,5,31,32,33,34,36,37]) .ret)) [5] (.seq (.region [
 .o 39 (.bin .eql) [.t 12,.const (.int .i64 3)], .o 38 .move [.t 39]] none [39]) (.cond (.T 38) [12] (.seq (.region [ .o 41 .move [.t 0],
 .o 42 (.fieldAddr 1) [.t 4], .o 43 (.loadF 0 false 1 false) [.t 42], .o 44 (.call 75) [.t 41,.t 43], .o 40 .move [.T 44], .o 45 (.extract 0) [.t 40],
 .o 46 (.extract 1) [.t 40], .o 47 (.extract 2) [.T 40], .o 9 (.allocF 2 [.int .i64 0,.int .i64 0,.int .i64 0]) [], .o 8 .move [.t 45],
 .n (.storeF 2 3) [.t 9,.t 46], .o 10 .move [.t 47]] none [0,41,42,43,45,46,47]) (.seq (.region [ .o 48 .move [.t 8], .o 49 .move [.t 10], .o 50 .move [.t 49],
 .y 51 (.loadF 2 true 3 false) [.t 9] 50, .y 52 (.fieldAddr 4) [.t 4] 50, .y 53 (.loadF 0 false 1 false) [.t 52] 50,
 .y 54 (.indexAddr 11) [.T 53,.const (.int .i64 0)] 50, .y 55 (.fieldAddr 7) [.T 54] 50, .y 56 (.load true 3 false) [.T 55] 50,
 .y 57 (.eqv (.flat [.int,.int,.int]) false) [.t 51,.t 56] 50, .o 58 .pick [.t 50,.t 57,.const (.bool false)], .o 6 .move [.t 48],
 .o 7 .move [.t 58]] (some []) [4,8,9,10,48,49,50,51,52,53,54,55,56,57,58]) .ret)) [] (.seq (.region [ .o 60 (.bin .eql) [.t 12,.const (.int .i64 4)],
 .o 59 .move [.t 60]] none [60]) (.cond (.T 59) [0,12] (.seq (.region [ .o 61 (.fieldAddr 4) [.t 4], .o 62 (.loadF 0 false 1 false) [.t 61],
 .o 63 (.indexAddr 11) [.T 62,.const (.int .i64 0)], .o 64 (.fieldAddr 7) [.T 63], .o 65 (.load true 3 false) [.T 64], .o 66 (.fieldAddr 4) [.t 4],
 .o 67 (.loadF 0 false 1 false) [.t 66], .o 68 (.indexAddr 11) [.T 67,.const (.int .i64 1)], .o 69 (.fieldAddr 7) [.T 68], .o 70 (.load true 3 false) [.T 69],
 .o 71 (.eqv (.flat [.int,.int,.int]) false) [.t 65,.t 70], .o 6 .move [.const (.int .i64 0)], .o 7 .move [.t 71]] (some []) [4,61,65,66,70,71]) .ret) [] (.seq
 (.seq (.region [ .o 73 (.bin .eql) [.t 12,.const (.int .i64 5)], .o 72 .move [.t 73]] none [73]) (.cond (.t 72) [] .skip [72] (.region [
 .o 74 (.bin .eql) [.t 12,.const (.int .i64 6)], .o 72 .move [.t 74]] none [74]))) (.cond (.T 72) [0,12] (.seq (.region [ .o 75 (.fieldAddr 4) [.t 4],
 .o 76 (.loadF 0 false 1 false) [.t 75], .o 77 (.indexAddr 11) [.T 76,.const (.int .i64 0)], .o 78 (.fieldAddr 7) [.T 77], .o 79 (.load true 3 false) [.T 78],
 .o 80 (.call 76) [], .o 81 (.eqv (.flat [.int,.int,.int]) false) [.t 79,.t 80], .o 6 .move [.const (.int .i64 0)],
 .o 7 .move [.t 81]] (some []) [4,75,79,80,81]) .ret) [] (.seq (.region [ .o 83 (.bin .eql) [.t 12,.const (.int .i64 7)], .o 82 .move [.t 83]] none [83])
 (.cond (.T 82) [12] (.seq (.region [ .o 84 (.fieldAddr 4) [.t 4], .o 85 (.loadF 0 false 1 false) [.t 84], .o 86 (.len .sl) [.T 85],
 .o 87 (.bin .eql) [.t 86,.const (.int .i64 0)], .o 88 .move [.t 87], .z 89 (.fieldAddr 4) [.t 4] 88, .z 90 (.loadF 0 false 1 false) [.t 89] 88,
 .z 91 (.indexAddr 11) [.T 90,.const (.int .i64 0)] 88, .z 92 (.fieldAddr 7) [.T 91] 88, .z 93 (.load true 3 false) [.T 92] 88, .z 94 .move [.t 0] 88,
 .z 95 .nilCheck [.t 94] 88, .z 96 (.fieldAddr 5) [.T 95] 88, .z 97 (.fieldAddr 3) [.T 96] 88, .z 98 (.load true 3 false) [.T 97] 88,
 .z 99 (.eqv (.flat [.int,.int,.int]) false) [.t 93,.t 98] 88, .o 100 .pick [.t 88,.const (.bool true),.t 99], .o 6 .move [.const (.int .i64 0)],
 .o 7 .move [.t 100]] (some []) [0,4,84,86,87,88,89,90,91,92,93,94,95,96,97,98,99,100]) .ret) [0] (.seq (.region [
 .o 102 (.bin .eql) [.t 12,.const (.int .i64 8)], .o 101 .move [.t 102]] none [12,102]) (.cond (.T 101) [] (.seq (.region [ .o 103 (.fieldAddr 4) [.t 4],
 .o 104 (.loadF 0 false 1 false) [.t 103], .o 105 (.indexAddr 11) [.T 104,.const (.int .i64 0)], .o 106 (.fieldAddr 7) [.T 105],
 .o 107 (.load true 3 false) [.T 106], .o 108 (.call 77) [], .o 109 (.eqv (.flat [.int,.int,.int]) false) [.t 107,.t 108], .o 6 .move [.const (.int .i64 0)],
 .o 7 .move [.t 109]] (some []) [4,103,107,108,109]) .ret) [4] .skip)))))))))))))))) (.seq (.region [ .o 6 .move [.const (.int .i64 0)],
 .o 7 .move [.const (.bool true)]] none []) .ret))) }

/-- runrig/runrigref3.SameExpr -/

def s67 : SFunc := { fid := 67,mode := .pure,nparams := 2,nboxes := 2,clr := [],results := [.tmp 4 false],body :=
 (.seq (.region [ .o 2 (.boxF 0 11) [.T 0], .o 3 (.boxF 1 11) [.T 1], .o 4 .move [.const (.bool false)]] none [4]) (.seq (.region [ .o 5 (.fieldAddr 0) [.t 2],
 .o 6 (.loadF 0 false 1 false) [.t 5], .o 7 (.fieldAddr 0) [.t 3], .o 8 (.loadF 1 false 1 false) [.t 7], .o 9 (.bin .eql) [.t 6,.t 8], .o 10 .move [.t 9],
 .y 11 (.fieldAddr 1) [.t 2] 10, .y 12 (.loadF 0 false 1 false) [.t 11] 10, .y 13 (.fieldAddr 1) [.t 3] 10, .y 14 (.loadF 1 false 1 false) [.t 13] 10,
 .y 15 (.bin .eql) [.t 12,.t 14] 10, .o 16 .pick [.t 10,.t 15,.const (.bool false)], .o 17 .move [.t 16], .y 18 (.fieldAddr 2) [.t 2] 17,
 .y 19 (.loadF 0 false 1 false) [.t 18] 17, .y 20 (.fieldAddr 2) [.t 3] 17, .y 21 (.loadF 1 false 1 false) [.t 20] 17, .y 22 (.bin .eql) [.t 19,.t 21] 17,
 .o 23 .pick [.t 17,.t 22,.const (.bool false)], .o 24 .move [.t 23], .y 25 (.fieldAddr 3) [.t 2] 24, .y 26 (.loadF 0 true 2 false) [.t 25] 24,
 .y 27 (.fieldAddr 3) [.t 3] 24, .y 28 (.loadF 1 true 2 false) [.t 27] 24, .y 29 (.eqv (.flat [.str,.int]) false) [.t 26,.t 28] 24,
 .o 30 .pick [.t 24,.t 29,.const (.bool false)], .o 31 .move [.t 30], .y 32 (.fieldAddr 7) [.t 2] 31, .y 33 (.loadF 0 true 3 false) [.t 32] 31,
 .y 34 (.fieldAddr 7) [.t 3] 31, .y 35 (.loadF 1 true 3 false) [.t 34] 31, .y 36 (.eqv (.flat [.int,.int,.int]) false) [.t 33,.t 35] 31,
 .o 37 .pick [.t 31,.t 36,.const (.bool false)], .o 38 .move [.t 37], .y 39 (.fieldAddr 10) [.t 2] 38, .y 40 (.loadF 0 false 1 false) [.t 39] 38,
 .y 41 (.fieldAddr 10) [.t 3] 38, .y 42 (.loadF 1 false 1 false) [.t 41] 38, .y 43 (.bin .eql) [.t 40,.t 42] 38,
 .o 44 .pick [.t 38,.t 43,.const (.bool false)], .o 45 .move [.t 44], .y 46 (.fieldAddr 5) [.t 2] 45, .y 47 (.loadF 0 false 1 false) [.t 46] 45,
 .y 48 (.fieldAddr 5) [.t 3] 45, .y 49 (.loadF 1 false 1 false) [.t 48] 45, .y 50 (.call 55) [.T 47,.T 49] 45, .o 51 .pick [.t 45,.t 50,.const (.bool false)],
 .o 4 .move [.t 51]] none [2,3,5,6,7,8,9,10,11,12,13,14,15,16,17,18,19,20,21,22,23,24,25,26,27,28,29,30,31,32,33,34,35,36,37,38,39,40,41,42,43,44,45,46,47,48,49,50,51])
 .ret)) }

/-- (*runrig/runrigref3.reader).unary -/

def s68 : SFunc := { fid := 68,mode := .scp,nparams := 1,nboxes := 3,clr := [],results := [.box 2 0 11 true],body :=
 (.seq (.region [
 .o 2 (.allocF 0 [.int .i64 0,.int .i64 0,.str [],.str [],.int .i64 0,.nilSl,.int .i64 0,.int .i64 0,.int .i64 0,.int .i64 0,.int .i64 0]) []] none []) (.seq
 (.region [ .o 6 .move [.t 0], .o 7 (.call 13) [.t 6], .o 3 (.allocF 1 [.int .i64 0,.str [],.int .i64 0,.int .i64 0]) [],
 .n (.storeF 1 4) [.t 3,.t 7]] none [6,7]) (.seq (.region [ .o 4 .move [.const (.int .i64 0)]] none [4]) (.seq (.block 0 (.seq (.region [ .o 13 .move [.t 0],
 .o 14 (.call 14) [.t 13,.const (.str [45])], .o 12 .move [.t 14]] none [13,14]) (.cond (.T 12) [] (.region [ .o 4 .move [.const (.int .i64 12)]] none []) []
 (.seq (.region [ .o 16 .move [.t 0], .o 17 (.call 14) [.t 16,.const (.str [33])], .o 15 .move [.t 17]] none [16,17]) (.cond (.T 15) [] (.region [
 .o 4 .move [.const (.int .i64 13)]] none []) [3] (.seq (.region [ .o 8 .move [.t 0], .o 9 .move [.t 0], .o 10 (.call 79) [.t 9],
 .o 11 (.call 78) [.t 8,.T 10], .n (.storeF 0 11) [.t 2,.T 11]] none [0,8,9]) .ret)))))) (.seq (.region [ .o 18 .move [.t 0], .o 19 (.fieldAddr 1) [.t 3],
 .o 20 (.loadF 1 false 1 false) [.t 19], .o 21 (.call 49) [.t 18,.t 20]] none [18,19,20,21]) (.seq (.region [ .o 22 .move [.t 0],
 .o 23 (.call 57) [.t 22,.const (.int .i64 5)],
 .o 5 (.allocF 2 [.int .i64 0,.int .i64 0,.str [],.str [],.int .i64 0,.nilSl,.int .i64 0,.int .i64 0,.int .i64 0,.int .i64 0,.int .i64 0]) [],
 .n (.storeF 2 11) [.t 5,.T 23]] none [22]) (.seq (.region [ .o 24 .move [.t 0], .o 25 .nilCheck [.t 24], .o 26 (.fieldAddr 2) [.T 25],
 .o 27 (.load false 1 false) [.T 26], .o 28 (.bin .sub) [.t 27,.const (.int .i64 1)], .o 29 .nilCheck [.t 24], .o 30 (.fieldAddr 2) [.T 29],
 .n (.store 1) [.T 30,.t 28]] none [0,24,27,28]) (.seq (.region [ .o 31 .move [.t 4], .o 32 (.loadF 2 true 11 false) [.t 5],
 .o 33 (.lit 11 1 [.int .i64 0,.int .i64 0,.str [],.str [],.int .i64 0,.nilSl,.int .i64 0,.int .i64 0,.int .i64 0,.int .i64 0,.int .i64 0] [0]) [.T 32],
 .o 34 (.fieldAddr 3) [.t 3], .o 35 (.loadF 1 false 1 false) [.t 34],
 .o 36 (.build [.int .i64 0,.int .i64 0,.str [],.str [],.int .i64 0,.nilSl,.int .i64 0,.int .i64 0,.int .i64 0,.int .i64 0,.int .i64 0] [(0,1),(5,1),(6,1)]) [.t 31,.T 33,.t 35],
 .n (.storeF 0 11) [.t 2,.T 36]] none [3,4,5,31,34,35]) .ret)))))))) }

/-- runrig/runrigref3.level -/
def s69_l0 : SCode :=
 (.seq (.seq (.region [ .o 23 .move [.t 7], .o 24 .move [.t 5], .o 25 .move [.t 0], .o 26 (.indexAddr 1) [.T 24,.t 25], .o 27 (.load false 1 false) [.T 26],
 .o 28 (.len .sl) [.T 27], .o 29 (.bin .lss) [.t 23,.t 28]] none [23,25,28]) (.cond (.T 29) [] .skip [0,3,5,6,7] (.exit 0))) (.seq (.block 1 (.seq (.region [
 .o 32 .move [.t 5], .o 33 .move [.t 0], .o 34 (.indexAddr 1) [.T 32,.t 33], .o 35 (.load false 1 false) [.T 34], .o 36 .move [.t 7],
 .o 37 (.indexAddr 1) [.T 35,.t 36], .o 38 (.load false 1 false) [.T 37], .o 39 (.fieldAddr 1) [.t 3], .o 40 (.loadF 0 false 1 false) [.t 39],
 .o 41 (.bin .eql) [.t 38,.t 40]] (some []) [33,36,38,39,40]) (.cond (.T 41) [3,5] (.seq (.region [ .o 42 .move [.T 6], .o 43 .move [.t 0],
 .o 44 (.indexAddr 1) [.T 42,.t 43], .o 45 (.load false 1 false) [.T 44], .o 46 .move [.t 7], .o 47 (.indexAddr 1) [.T 45,.t 46],
 .o 48 (.load false 1 false) [.T 47], .o 4 .move [.t 48]] none [0,7,43,46,48]) .ret) [] .skip))) (.region [ .o 30 .move [.t 7],
 .o 31 (.bin .add) [.t 30,.const (.int .i64 1)], .o 7 .move [.t 31]] none [30,31])))
def s69 : SFunc := { fid := 69,mode := .pure,nparams := 2,nboxes := 1,clr := [],results := [.tmp 4 false],body :=
 (.seq (.region [ .o 3 (.boxF 0 4) [.t 1], .o 4 .move [.const (.int .i64 0)]] none [1,4]) (.seq (.seq (.region [ .o 8 (.fieldAddr 0) [.t 3],
 .o 9 (.loadF 0 false 1 false) [.t 8], .o 10 (.bin .neq) [.t 9,.const (.int .i64 4)]] none [8,9]) (.cond (.T 10) [0,3] (.seq (.region [
 .o 4 .move [.const (.int .i64 0)]] none []) .ret) [] .skip)) (.seq (.region [ .o 11 (.lit 1 1 [.str []] [0]) [.const (.str [124,124])],
 .o 12 (.lit 1 1 [.str []] [0]) [.const (.str [38,38])],
 .o 13 (.lit 1 4 [.str []] [0,1,2,3]) [.const (.str [60]),.const (.str [60,61]),.const (.str [61,61]),.const (.str [33,61])],
 .o 14 (.lit 1 2 [.str []] [0,1]) [.const (.str [43]),.const (.str [45])],
 .o 15 (.lit 1 3 [.str []] [0,1,2]) [.const (.str [42]),.const (.str [47]),.const (.str [37])],
 .o 16 (.lit 1 5 [.nilSl] [0,1,2,3,4]) [.T 11,.T 12,.T 13,.T 14,.T 15], .o 5 .move [.T 16]] none []) (.seq (.region [
 .o 17 (.lit 1 1 [.int .i64 0] [0]) [.const (.int .i64 24)], .o 18 (.lit 1 1 [.int .i64 0] [0]) [.const (.int .i64 23)],
 .o 19 (.lit 1 4 [.int .i64 0] [0,1,2,3]) [.const (.int .i64 19),.const (.int .i64 20),.const (.int .i64 21),.const (.int .i64 22)],
 .o 20 (.lit 1 2 [.int .i64 0] [0,1]) [.const (.int .i64 14),.const (.int .i64 15)],
 .o 21 (.lit 1 3 [.int .i64 0] [0,1,2]) [.const (.int .i64 16),.const (.int .i64 17),.const (.int .i64 18)],
 .o 22 (.lit 1 5 [.nilSl] [0,1,2,3,4]) [.T 17,.T 18,.T 19,.T 20,.T 21], .o 6 .move [.T 22]] none []) (.seq (.seq (.region [
 .o 7 .move [.const (.int .i64 0)]] none []) (.block 0 (.loop s69_l0))) (.seq (.region [ .o 4 .move [.const (.int .i64 0)]] none []) .ret)))))) }

/-- runrig/typed.isKinds -/

def s70 : SFunc := { fid := 70,mode := .pure,nparams := 1,nboxes := 1,clr := [],results := [.tmp 2 false],body :=
 (.seq (.region [ .o 1 (.boxF 0 11) [.T 0], .o 2 .move [.const (.bool false)]] none [2]) (.seq (.seq (.region [ .o 3 (.fieldAddr 0) [.t 1],
 .o 4 (.loadF 0 false 1 false) [.t 3]] none [3]) (.block 0 (.seq (.seq (.region [ .o 6 (.bin .eql) [.t 4,.const (.int .i64 1)], .o 5 .move [.t 6]] none [6])
 (.cond (.t 5) [] .skip [5] (.seq (.region [ .o 7 (.bin .eql) [.t 4,.const (.int .i64 3)], .o 5 .move [.t 7]] none [7]) (.cond (.t 5) [] .skip [5] (.seq
 (.region [ .o 8 (.bin .eql) [.t 4,.const (.int .i64 4)], .o 5 .move [.t 8]] none [8]) (.cond (.t 5) [] .skip [5] (.seq (.region [
 .o 9 (.bin .eql) [.t 4,.const (.int .i64 8)], .o 5 .move [.t 9]] none [9]) (.cond (.t 5) [] .skip [5] (.region [
 .o 10 (.bin .eql) [.t 4,.const (.int .i64 11)], .o 5 .move [.t 10]] none [10]))))))))) (.cond (.T 5) [4] (.seq (.region [ .o 11 (.fieldAddr 5) [.t 1],
 .o 12 (.loadF 0 false 1 false) [.t 11], .o 13 (.len .sl) [.T 12], .o 14 (.bin .eql) [.t 13,.const (.int .i64 0)], .o 2 .move [.t 14]] none [1,11,13,14])
 .ret) [] (.seq (.region [ .o 16 (.bin .eql) [.t 4,.const (.int .i64 2)], .o 15 .move [.t 16]] none [16]) (.cond (.T 15) [4] (.seq (.region [
 .o 17 (.fieldAddr 5) [.t 1], .o 18 (.loadF 0 false 1 false) [.t 17], .o 19 (.len .sl) [.T 18], .o 20 (.bin .eql) [.t 19,.const (.int .i64 0)],
 .o 21 .move [.t 20], .y 22 (.fieldAddr 1) [.t 1] 21, .y 23 (.loadF 0 false 1 false) [.t 22] 21, .y 24 (.bin .eql) [.t 23,.const (.int .i64 0)] 21,
 .y 25 .move [.t 24] 21, .z 26 (.fieldAddr 1) [.t 1] 25, .z 27 (.loadF 0 false 1 false) [.t 26] 25, .z 28 (.bin .eql) [.t 27,.const (.int .i64 1)] 25,
 .y 29 .pick [.t 25,.const (.bool true),.t 28] 21, .o 30 .pick [.t 21,.t 29,.const (.bool false)],
 .o 2 .move [.t 30]] none [1,17,19,20,21,22,23,24,25,26,27,28,29,30]) .ret) [] (.seq (.region [ .o 32 (.bin .eql) [.t 4,.const (.int .i64 7)],
 .o 31 .move [.t 32]] none [32]) (.cond (.T 31) [1,4] (.seq (.region [ .o 2 .move [.const (.bool true)]] none []) .ret) [] (.seq (.seq (.region [
 .o 34 (.bin .eql) [.t 4,.const (.int .i64 5)], .o 33 .move [.t 34]] none [34]) (.cond (.t 33) [4] .skip [33] (.seq (.region [
 .o 35 (.bin .eql) [.t 4,.const (.int .i64 9)], .o 33 .move [.t 35]] none [35]) (.cond (.t 33) [4] .skip [33] (.seq (.region [
 .o 36 (.bin .eql) [.t 4,.const (.int .i64 10)], .o 33 .move [.t 36]] none [36]) (.cond (.t 33) [4] .skip [33] (.seq (.region [
 .o 37 (.bin .eql) [.t 4,.const (.int .i64 12)], .o 33 .move [.t 37]] none [37]) (.cond (.t 33) [4] .skip [33] (.region [
 .o 38 (.bin .eql) [.t 4,.const (.int .i64 13)], .o 33 .move [.t 38]] none [4,38]))))))))) (.cond (.T 33) [] (.seq (.region [ .o 39 (.fieldAddr 5) [.t 1],
 .o 40 (.loadF 0 false 1 false) [.t 39], .o 41 (.len .sl) [.T 40], .o 42 (.bin .eql) [.t 41,.const (.int .i64 1)], .o 2 .move [.t 42]] none [1,39,41,42])
 .ret) [] .skip)))))))))) (.seq (.region [ .o 43 (.fieldAddr 0) [.t 1], .o 44 (.loadF 0 false 1 false) [.t 43], .o 45 (.bin .eql) [.t 44,.const (.int .i64 6)],
 .o 46 .move [.t 45], .z 47 (.fieldAddr 0) [.t 1] 46, .z 48 (.loadF 0 false 1 false) [.t 47] 46, .z 49 (.bin .geq) [.t 48,.const (.int .i64 14)] 46,
 .z 50 .move [.t 49] 46, .y 51 (.fieldAddr 0) [.t 1] 50, .y 52 (.loadF 0 false 1 false) [.t 51] 50, .y 53 (.bin .leq) [.t 52,.const (.int .i64 24)] 50,
 .z 54 .pick [.t 50,.t 53,.const (.bool false)] 46, .o 55 .pick [.t 46,.const (.bool true),.t 54], .o 56 .move [.t 55], .y 57 (.fieldAddr 5) [.t 1] 56,
 .y 58 (.loadF 0 false 1 false) [.t 57] 56, .y 59 (.len .sl) [.T 58] 56, .y 60 (.bin .eql) [.t 59,.const (.int .i64 2)] 56,
 .o 61 .pick [.t 56,.t 60,.const (.bool false)], .o 2 .move [.t 61]] none [1,43,44,45,46,47,48,49,50,51,52,53,54,55,56,57,58,59,60,61]) .ret))) }

/-- runrig/typed.kept -/

def s71 : SFunc := { fid := 71,mode := .pure,nparams := 1,nboxes := 3,clr := [],results := [.box 2 1 11 true],body :=
 (.seq (.region [ .o 1 (.boxF 0 11) [.T 0],
 .o 2 (.allocF 1 [.int .i64 0,.int .i64 0,.str [],.str [],.int .i64 0,.nilSl,.int .i64 0,.int .i64 0,.int .i64 0,.int .i64 0,.int .i64 0]) []] none []) (.seq
 (.region [ .o 4 (.fieldAddr 0) [.t 1], .o 5 (.loadF 0 false 1 false) [.t 4], .o 6 (.fieldAddr 6) [.t 1], .o 7 (.loadF 0 false 1 false) [.t 6],
 .o 8 (.build [.int .i64 0,.int .i64 0,.str [],.str [],.int .i64 0,.nilSl,.int .i64 0,.int .i64 0,.int .i64 0,.int .i64 0,.int .i64 0] [(0,1),(6,1)]) [.t 5,.t 7],
 .o 3 (.allocF 2 [.int .i64 0,.int .i64 0,.str [],.str [],.int .i64 0,.nilSl,.int .i64 0,.int .i64 0,.int .i64 0,.int .i64 0,.int .i64 0]) [],
 .n (.storeF 2 11) [.t 3,.T 8]] none [4,5,6,7]) (.seq (.seq (.region [ .o 9 (.fieldAddr 0) [.t 1], .o 10 (.loadF 0 false 1 false) [.t 9]] none [9]) (.block 0
 (.seq (.seq (.region [ .o 12 (.bin .eql) [.t 10,.const (.int .i64 1)], .o 11 .move [.t 12]] none [12]) (.cond (.t 11) [] .skip [11] (.region [
 .o 13 (.bin .eql) [.t 10,.const (.int .i64 2)], .o 11 .move [.t 13]] none [13]))) (.cond (.T 11) [10] (.region [ .o 14 (.fieldAddr 1) [.t 1],
 .o 15 (.loadF 0 false 1 false) [.t 14], .o 16 (.fieldAddr 1) [.t 3], .n (.storeF 2 1) [.t 16,.t 15]] none [1,14,15,16]) [] (.seq (.seq (.region [
 .o 18 (.bin .eql) [.t 10,.const (.int .i64 3)], .o 17 .move [.t 18]] none [18]) (.cond (.t 17) [] .skip [17] (.seq (.region [
 .o 19 (.bin .eql) [.t 10,.const (.int .i64 8)], .o 17 .move [.t 19]] none [19]) (.cond (.t 17) [] .skip [17] (.region [
 .o 20 (.bin .eql) [.t 10,.const (.int .i64 9)], .o 17 .move [.t 20]] none [20]))))) (.cond (.T 17) [10] (.region [ .o 21 (.fieldAddr 3) [.t 1],
 .o 22 (.loadF 0 true 2 false) [.t 21], .o 23 (.fieldAddr 3) [.t 3], .n (.storeF 2 2) [.t 23,.t 22]] none [1,21,22,23]) [] (.seq (.seq (.region [
 .o 25 (.bin .eql) [.t 10,.const (.int .i64 4)], .o 24 .move [.t 25]] none [25]) (.cond (.t 24) [10] .skip [24] (.seq (.region [
 .o 26 (.bin .eql) [.t 10,.const (.int .i64 5)], .o 24 .move [.t 26]] none [26]) (.cond (.t 24) [10] .skip [24] (.region [
 .o 27 (.bin .eql) [.t 10,.const (.int .i64 7)], .o 24 .move [.t 27]] none [10,27]))))) (.cond (.T 24) [] (.region [ .o 28 (.fieldAddr 2) [.t 1],
 .o 29 (.loadF 0 false 1 false) [.t 28], .o 30 (.fieldAddr 2) [.t 3], .n (.storeF 2 1) [.t 30,.t 29]] none [1,28,29,30]) [1] .skip)))))))) (.seq (.region [
 .o 31 (.loadF 2 true 11 false) [.t 3], .n (.storeF 1 11) [.t 2,.T 31]] none [3]) .ret)))) }

/-- (*runrig/typed.checker).typed -/

def s72 : SFunc := { fid := 72,mode := .scp,nparams := 2,nboxes := 8,clr := [],results := [.box 4 1 3 true,.tmp 5 false,.tmp 6 false],body :=
 (.seq (.region [ .o 3 (.boxF 0 11) [.T 1], .o 4 (.allocF 1 [.int .i64 0,.int .i64 0,.int .i64 0]) [], .o 5 .move [.const (.int .i64 0)],
 .o 6 .move [.const (.bool false)]] none [5,6]) (.seq (.seq (.region [ .o 19 (.fieldAddr 0) [.t 3], .o 20 (.loadF 0 false 1 false) [.t 19]] none [19])
 (.block 0 (.seq (.seq (.region [ .o 22 (.bin .eql) [.t 20,.const (.int .i64 1)], .o 21 .move [.t 22]] none [22]) (.cond (.t 21) [] .skip [21] (.region [
 .o 23 (.bin .eql) [.t 20,.const (.int .i64 11)], .o 21 .move [.t 23]] none [23]))) (.cond (.T 21) [0,3,20] (.seq (.region [ .o 24 (.call 77) [],
 .n (.storeF 1 3) [.t 4,.t 24], .o 5 .move [.const (.int .i64 0)], .o 6 .move [.const (.bool true)]] none [24]) .ret) [] (.seq (.region [
 .o 26 (.bin .eql) [.t 20,.const (.int .i64 2)], .o 25 .move [.t 26]] none [26]) (.cond (.T 25) [0,3,20] (.seq (.region [ .o 27 (.call 76) [],
 .n (.storeF 1 3) [.t 4,.t 27], .o 5 .move [.const (.int .i64 0)], .o 6 .move [.const (.bool true)]] none [27]) .ret) [] (.seq (.region [
 .o 29 (.bin .eql) [.t 20,.const (.int .i64 3)], .o 28 .move [.t 29]] none [29]) (.cond (.T 28) [20] (.seq (.region [ .o 31 .move [.t 0],
 .o 32 .nilCheck [.t 31], .o 33 (.fieldAddr 4) [.T 32], .o 34 (.load false 1 false) [.T 33], .o 35 (.fieldAddr 3) [.t 3],
 .o 36 (.loadF 0 true 2 false) [.t 35], .o 37 (.call 60) [.T 34,.t 36], .o 30 .move [.T 37], .o 38 (.extract 0) [.t 30], .o 39 (.extract 1) [.t 30],
 .o 7 (.allocF 2 [.int .i64 0,.int .i64 0,.int .i64 0]) [], .n (.storeF 2 3) [.t 7,.t 38], .o 8 .move [.t 39]] (some []) [0,3,30,31,35,36,38,39]) (.seq
 (.region [ .o 40 (.loadF 2 true 3 false) [.t 7], .o 41 .move [.t 8], .o 42 .move [.t 41], .y 43 (.loadF 2 true 3 false) [.t 7] 42,
 .y 44 (.call 80) [.t 43] 42, .o 45 .pick [.t 42,.t 44,.const (.bool false)], .n (.storeF 1 3) [.t 4,.t 40], .o 5 .move [.const (.int .i64 0)],
 .o 6 .move [.t 45]] (some []) [7,8,40,41,42,43,44,45]) .ret)) [] (.seq (.region [ .o 47 (.bin .eql) [.t 20,.const (.int .i64 4)],
 .o 46 .move [.t 47]] none [47]) (.cond (.T 46) [20] (.seq (.region [ .o 49 .move [.t 0], .o 50 (.fieldAddr 2) [.t 3], .o 51 (.loadF 0 false 1 false) [.t 50],
 .o 52 (.call 75) [.t 49,.t 51], .o 48 .move [.T 52], .o 53 (.extract 0) [.t 48], .o 54 (.extract 1) [.t 48], .o 55 (.extract 2) [.T 48],
 .o 10 (.allocF 3 [.int .i64 0,.int .i64 0,.int .i64 0]) [], .o 9 .move [.t 53], .n (.storeF 3 3) [.t 10,.t 54],
 .o 11 .move [.t 55]] none [0,3,49,50,51,53,54,55]) (.seq (.region [ .o 56 (.loadF 3 true 3 false) [.t 10], .o 57 .move [.t 9], .o 58 .move [.t 11],
 .n (.storeF 1 3) [.t 4,.t 56], .o 5 .move [.t 57], .o 6 .move [.t 58]] none [9,10,11,56,57,58]) .ret)) [] (.seq (.region [
 .o 60 (.bin .eql) [.t 20,.const (.int .i64 5)], .o 59 .move [.t 60]] none [60]) (.cond (.T 59) [20] (.seq (.region [ .o 61 .move [.t 0],
 .o 62 (.loadF 0 true 11 false) [.t 3], .o 63 (.call 81) [.t 61,.T 62], .o 64 (.extract 0) [.t 63], .o 65 (.extract 1) [.t 63], .o 66 (.extract 2) [.T 63],
 .n (.storeF 1 3) [.t 4,.t 64], .o 5 .move [.t 65], .o 6 .move [.t 66]] none [0,3,61,64,65,66]) .ret) [] (.seq (.region [
 .o 68 (.bin .eql) [.t 20,.const (.int .i64 6)], .o 67 .move [.t 68]] none [68]) (.cond (.T 67) [0,20] (.seq (.region [ .o 69 (.fieldAddr 5) [.t 3],
 .o 70 (.loadF 0 false 1 false) [.t 69], .o 71 (.indexAddr 11) [.T 70,.const (.int .i64 0)], .o 72 (.fieldAddr 7) [.T 71], .o 73 (.load true 3 false) [.T 72],
 .o 12 (.allocF 4 [.int .i64 0,.int .i64 0,.int .i64 0]) [], .n (.storeF 4 3) [.t 12,.t 73]] none [69,73]) (.seq (.region [ .o 74 (.fieldAddr 2) [.t 12],
 .o 75 (.loadF 4 false 1 false) [.t 74], .o 76 (.bin .gtr) [.t 75,.const (.int .i64 0)], .o 77 .move [.t 76], .y 78 (.fieldAddr 5) [.t 3] 77,
 .y 79 (.loadF 0 false 1 false) [.t 78] 77, .y 80 (.indexAddr 11) [.T 79,.const (.int .i64 1)] 77, .y 81 (.fieldAddr 7) [.T 80] 77,
 .y 82 (.load true 3 false) [.T 81] 77, .y 83 (.call 77) [] 77, .y 84 (.eqv (.flat [.int,.int,.int]) false) [.t 82,.t 83] 77,
 .o 85 .pick [.t 77,.t 84,.const (.bool false)], .o 13 .move [.t 85]] (some []) [3,74,75,76,77,78,79,80,81,82,83,84,85]) (.seq (.region [
 .o 86 (.fieldAddr 2) [.t 12], .o 87 (.loadF 4 false 1 false) [.t 86], .o 88 (.bin .sub) [.t 87,.const (.int .i64 1)], .o 89 (.fieldAddr 2) [.t 12],
 .n (.storeF 4 1) [.t 89,.t 88]] none [86,87,88,89]) (.seq (.region [ .o 90 (.loadF 4 true 3 false) [.t 12], .o 91 .move [.t 13],
 .n (.storeF 1 3) [.t 4,.t 90], .o 5 .move [.const (.int .i64 0)], .o 6 .move [.t 91]] none [12,13,90,91]) .ret)))) [] (.seq (.region [
 .o 93 (.bin .eql) [.t 20,.const (.int .i64 7)], .o 92 .move [.t 93]] none [93]) (.cond (.T 92) [20] (.seq (.region [ .o 94 .move [.t 0],
 .o 95 (.loadF 0 true 11 false) [.t 3], .o 96 (.call 82) [.t 94,.T 95], .o 97 (.extract 0) [.t 96], .o 98 (.extract 1) [.t 96], .o 99 (.extract 2) [.T 96],
 .n (.storeF 1 3) [.t 4,.t 97], .o 5 .move [.t 98], .o 6 .move [.t 99]] none [0,3,94,97,98,99]) .ret) [] (.seq (.region [
 .o 101 (.bin .eql) [.t 20,.const (.int .i64 8)], .o 100 .move [.t 101]] none [101]) (.cond (.T 100) [20] (.seq (.region [ .o 103 .move [.t 0],
 .o 104 .nilCheck [.t 103], .o 105 (.fieldAddr 4) [.T 104], .o 106 (.load false 1 false) [.T 105], .o 107 (.fieldAddr 3) [.t 3],
 .o 108 (.loadF 0 true 2 false) [.t 107], .o 109 (.call 60) [.T 106,.t 108], .o 102 .move [.T 109], .o 110 (.extract 0) [.t 102], .o 111 (.extract 1) [.t 102],
 .o 14 (.allocF 5 [.int .i64 0,.int .i64 0,.int .i64 0]) [], .n (.storeF 5 3) [.t 14,.t 110], .o 15 .move [.t 111]] (some []) [0,3,102,103,107,108,110,111])
 (.seq (.region [ .o 112 (.loadF 5 true 3 false) [.t 14], .o 113 .move [.t 15], .o 114 .move [.t 113], .y 115 (.fieldAddr 0) [.t 14] 114,
 .y 116 (.loadF 5 false 1 false) [.t 115] 114, .y 117 (.bin .eql) [.t 116,.const (.int .i64 3)] 114, .o 118 .pick [.t 114,.t 117,.const (.bool false)],
 .o 119 .move [.t 118], .y 120 (.fieldAddr 2) [.t 14] 119, .y 121 (.loadF 5 false 1 false) [.t 120] 119, .y 122 (.bin .eql) [.t 121,.const (.int .i64 0)] 119,
 .o 123 .pick [.t 119,.t 122,.const (.bool false)], .n (.storeF 1 3) [.t 4,.t 112], .o 5 .move [.const (.int .i64 0)],
 .o 6 .move [.t 123]] (some []) [14,15,112,113,114,115,116,117,118,119,120,121,122,123]) .ret)) [] (.seq (.region [
 .o 125 (.bin .eql) [.t 20,.const (.int .i64 9)], .o 124 .move [.t 125]] none [125]) (.cond (.T 124) [20] (.seq (.region [ .o 127 .move [.t 0],
 .o 128 .nilCheck [.t 127], .o 129 (.fieldAddr 4) [.T 128], .o 130 (.load false 1 false) [.T 129], .o 131 (.fieldAddr 3) [.t 3],
 .o 132 (.loadF 0 true 2 false) [.t 131], .o 133 (.call 60) [.T 130,.t 132], .o 126 .move [.T 133], .o 134 (.extract 0) [.t 126], .o 135 (.extract 1) [.t 126],
 .o 16 (.allocF 6 [.int .i64 0,.int .i64 0,.int .i64 0]) [], .n (.storeF 6 3) [.t 16,.t 134], .o 17 .move [.t 135]] (some []) [0,126,127,131,132,134,135])
 (.seq (.region [ .o 136 .move [.t 17], .o 137 .move [.t 136], .y 138 (.fieldAddr 2) [.t 16] 137, .y 139 (.loadF 6 false 1 false) [.t 138] 137,
 .y 140 (.bin .lss) [.t 139,.const (.int .i64 3)] 137, .o 141 .pick [.t 137,.t 140,.const (.bool false)], .o 142 .move [.t 141],
 .y 143 (.fieldAddr 5) [.t 3] 142, .y 144 (.loadF 0 false 1 false) [.t 143] 142, .y 145 (.indexAddr 11) [.T 144,.const (.int .i64 0)] 142,
 .y 146 (.fieldAddr 7) [.T 145] 142, .y 147 (.load true 3 false) [.T 146] 142, .y 148 (.call 77) [] 142,
 .y 149 (.eqv (.flat [.int,.int,.int]) false) [.t 147,.t 148] 142, .o 150 .pick [.t 142,.t 149,.const (.bool false)],
 .o 17 .move [.t 150]] (some []) [3,136,137,138,139,140,141,142,143,144,145,146,147,148,149,150]) (.seq (.region [ .o 151 (.fieldAddr 2) [.t 16],
 .o 152 (.loadF 6 false 1 false) [.t 151], .o 153 (.bin .add) [.t 152,.const (.int .i64 1)], .o 154 (.fieldAddr 2) [.t 16],
 .n (.storeF 6 1) [.t 154,.t 153]] none [151,152,153,154]) (.seq (.region [ .o 155 (.loadF 6 true 3 false) [.t 16], .o 156 .move [.t 17],
 .n (.storeF 1 3) [.t 4,.t 155], .o 5 .move [.const (.int .i64 0)], .o 6 .move [.t 156]] none [16,17,155,156]) .ret)))) [] (.seq (.region [
 .o 158 (.bin .eql) [.t 20,.const (.int .i64 10)], .o 157 .move [.t 158]] none [158]) (.cond (.T 157) [0,20] (.seq (.region [ .o 159 (.call 77) [],
 .o 160 (.fieldAddr 5) [.t 3], .o 161 (.loadF 0 false 1 false) [.t 160], .o 162 (.indexAddr 11) [.T 161,.const (.int .i64 0)], .o 163 (.fieldAddr 7) [.T 162],
 .o 164 (.fieldAddr 2) [.T 163], .o 165 (.load false 1 false) [.T 164], .o 166 (.bin .gtr) [.t 165,.const (.int .i64 0)], .n (.storeF 1 3) [.t 4,.t 159],
 .o 5 .move [.const (.int .i64 0)], .o 6 .move [.t 166]] (some []) [3,159,160,165,166]) .ret) [] (.seq (.seq (.region [
 .o 168 (.bin .eql) [.t 20,.const (.int .i64 12)], .o 167 .move [.t 168]] none [168]) (.cond (.t 167) [20] .skip [167] (.region [
 .o 169 (.bin .eql) [.t 20,.const (.int .i64 13)], .o 167 .move [.t 169]] none [20,169]))) (.cond (.T 167) [0] (.seq (.region [ .o 170 (.call 77) [],
 .o 18 (.allocF 7 [.int .i64 0,.int .i64 0,.int .i64 0]) [], .n (.storeF 7 3) [.t 18,.t 170]] none [170]) (.seq (.seq (.region [ .o 171 (.fieldAddr 0) [.t 3],
 .o 172 (.loadF 0 false 1 false) [.t 171], .o 173 (.bin .eql) [.t 172,.const (.int .i64 13)]] none [171,172]) (.cond (.T 173) [] (.region [
 .o 174 (.call 76) [], .n (.storeF 7 3) [.t 18,.t 174]] none [174]) [] .skip)) (.seq (.region [ .o 175 (.loadF 7 true 3 false) [.t 18],
 .o 176 (.fieldAddr 5) [.t 3], .o 177 (.loadF 0 false 1 false) [.t 176], .o 178 (.indexAddr 11) [.T 177,.const (.int .i64 0)], .o 179 (.fieldAddr 7) [.T 178],
 .o 180 (.load true 3 false) [.T 179], .o 181 (.loadF 7 true 3 false) [.t 18], .o 182 (.eqv (.flat [.int,.int,.int]) false) [.t 180,.t 181],
 .n (.storeF 1 3) [.t 4,.t 175], .o 5 .move [.const (.int .i64 0)], .o 6 .move [.t 182]] (some []) [3,18,175,176,180,181,182]) .ret))) []
 .skip)))))))))))))))))))))))) (.seq (.region [ .o 183 .move [.t 0], .o 184 (.loadF 0 true 11 false) [.t 3], .o 185 (.call 83) [.t 183,.T 184],
 .o 186 (.extract 0) [.t 185], .o 187 (.extract 1) [.t 185], .o 188 (.extract 2) [.T 185], .n (.storeF 1 3) [.t 4,.t 186], .o 5 .move [.t 187],
 .o 6 .move [.t 188]] none [0,3,183,186,187,188]) .ret))) }

/-- (*runrig/typed.checker).value -/

def s73 : SFunc := { fid := 73,mode := .scp,nparams := 2,nboxes := 3,clr := [],results := [.box 4 1 11 true],body :=
 (.seq (.region [ .o 3 (.boxF 0 11) [.T 1],
 .o 4 (.allocF 1 [.int .i64 0,.int .i64 0,.str [],.str [],.int .i64 0,.nilSl,.int .i64 0,.int .i64 0,.int .i64 0,.int .i64 0,.int .i64 0]) []] none []) (.seq
 (.region [ .o 6 .move [.t 0], .o 7 (.loadF 0 true 11 false) [.t 3], .o 8 (.call 64) [.t 6,.T 7],
 .o 5 (.allocF 2 [.int .i64 0,.int .i64 0,.str [],.str [],.int .i64 0,.nilSl,.int .i64 0,.int .i64 0,.int .i64 0,.int .i64 0,.int .i64 0]) [],
 .n (.storeF 2 11) [.t 5,.T 8]] none [3,6]) (.seq (.seq (.region [ .o 9 (.fieldAddr 7) [.t 5], .o 10 (.loadF 2 true 3 false) [.t 9], .o 11 (.call 61) [],
 .o 12 (.eqv (.flat [.int,.int,.int]) false) [.t 10,.t 11]] (some []) [9,10,11]) (.cond (.T 12) [] (.region [ .o 13 .move [.t 0], .o 14 (.fieldAddr 6) [.t 5],
 .o 15 (.loadF 2 false 1 false) [.t 14], .o 16 (.call 63) [.t 13,.t 15]] none [0,13,14,15,16]) [0] .skip)) (.seq (.region [
 .o 17 (.loadF 2 true 11 false) [.t 5], .n (.storeF 1 11) [.t 4,.T 17]] none [5]) .ret)))) }

/-- (*runrig/typed.checker).declare -/

def s74 : SFunc := { fid := 74,mode := .scp,nparams := 3,nboxes := 1,clr := [],results := [.tmp 6 false,.tmp 7 false],body :=
 (.seq (.region [ .o 5 (.boxF 0 3) [.t 2], .o 6 .move [.const (.int .i64 0)], .o 7 .move [.const (.bool false)]] none [2,6,7]) (.seq (.seq (.region [
 .o 8 .move [.t 0], .o 9 .nilCheck [.t 8], .o 10 (.fieldAddr 11) [.T 9], .o 11 (.load false 1 false) [.T 10], .o 12 .move [.t 1],
 .o 13 (.call 84) [.T 11,.t 12], .o 14 (.bin .geq) [.t 13,.const (.int .i64 0)]] none [8,12,13]) (.cond (.T 14) [0,1,5] (.seq (.region [
 .o 6 .move [.const (.int .i64 0)], .o 7 .move [.const (.bool false)]] none []) .ret) [] .skip)) (.seq (.region [ .o 15 .move [.t 0], .o 16 .move [.t 0],
 .o 17 .nilCheck [.t 16], .o 18 (.fieldAddr 11) [.T 17], .o 19 (.load false 1 true) [.T 18], .o 20 .move [.t 1], .o 21 (.loadF 0 true 3 false) [.t 5],
 .o 22 (.build [.str [],.int .i64 0,.int .i64 0,.int .i64 0] [(0,1),(1,3)]) [.t 20,.t 21],
 .o 23 (.lit 4 1 [.str [],.int .i64 0,.int .i64 0,.int .i64 0] [0]) [.t 22], .o 24 (.append 4 40) [.T 19,.T 23], .o 25 .nilCheck [.t 15],
 .o 26 (.fieldAddr 11) [.T 25], .n (.store 1) [.T 26,.T 24]] (some []) [1,5,15,16,20,21,22]) (.seq (.region [ .o 27 .move [.t 0], .o 28 .nilCheck [.t 27],
 .o 29 (.fieldAddr 11) [.T 28], .o 30 (.load false 1 false) [.T 29], .o 31 (.len .sl) [.T 30], .o 32 (.bin .sub) [.t 31,.const (.int .i64 1)],
 .o 6 .move [.t 32], .o 7 .move [.const (.bool true)]] none [0,27,31,32]) .ret)))) }

/-- (*runrig/typed.checker).variable -/

def s75 : SFunc := { fid := 75,mode := .scp,nparams := 2,nboxes := 1,clr := [],results := [.tmp 4 false,.box 5 0 3 true,.tmp 6 false],body :=
 (.seq (.region [ .o 4 .move [.const (.int .i64 0)], .o 5 (.allocF 0 [.int .i64 0,.int .i64 0,.int .i64 0]) [], .o 6 .move [.const (.bool false)]] none [4,6])
 (.seq (.seq (.region [ .o 9 .move [.t 0], .o 10 .nilCheck [.t 9], .o 11 (.fieldAddr 11) [.T 10], .o 12 (.load false 1 false) [.T 11], .o 13 .move [.t 1],
 .o 14 (.call 84) [.T 12,.t 13], .o 7 .move [.t 14]] none [9,13,14]) (.seq (.region [ .o 15 .move [.t 7],
 .o 16 (.bin .geq) [.t 15,.const (.int .i64 0)]] none [15]) (.cond (.T 16) [1] (.seq (.region [ .o 17 .move [.t 7], .o 18 .move [.t 0],
 .o 19 .nilCheck [.t 18], .o 20 (.fieldAddr 11) [.T 19], .o 21 (.load false 1 false) [.T 20], .o 22 .move [.t 7], .o 23 (.indexAddr 4) [.T 21,.t 22],
 .o 24 (.fieldAddr 1) [.T 23], .o 25 (.load true 3 false) [.T 24], .o 4 .move [.t 17], .n (.storeF 0 3) [.t 5,.t 25],
 .o 6 .move [.const (.bool true)]] (some []) [0,7,17,18,22,25]) .ret) [7] .skip))) (.seq (.seq (.region [ .o 26 .move [.t 0], .o 27 .nilCheck [.t 26],
 .o 28 (.fieldAddr 0) [.T 27], .o 29 (.fieldAddr 1) [.T 28], .o 30 (.load false 1 false) [.T 29], .o 31 .move [.t 1], .o 32 (.call 84) [.T 30,.t 31],
 .o 8 .move [.t 32]] none [1,26,31,32]) (.seq (.region [ .o 33 .move [.t 8], .o 34 (.bin .geq) [.t 33,.const (.int .i64 0)]] none [33]) (.cond (.T 34) [] (.seq
 (.region [ .o 35 .move [.t 8], .o 36 (.bin .sub) [.const (.int .i64 (-1)),.t 35], .o 37 .move [.t 0], .o 38 .nilCheck [.t 37], .o 39 (.fieldAddr 0) [.T 38],
 .o 40 (.fieldAddr 1) [.T 39], .o 41 (.load false 1 false) [.T 40], .o 42 .move [.t 8], .o 43 (.indexAddr 4) [.T 41,.t 42], .o 44 (.fieldAddr 1) [.T 43],
 .o 45 (.load true 3 false) [.T 44], .o 4 .move [.t 36], .n (.storeF 0 3) [.t 5,.t 45], .o 6 .move [.const (.bool true)]] (some []) [0,8,35,36,37,42,45])
 .ret) [0,8] .skip))) (.seq (.region [ .o 46 (.call 61) [], .o 4 .move [.const (.int .i64 0)], .n (.storeF 0 3) [.t 5,.t 46],
 .o 6 .move [.const (.bool false)]] none [46]) .ret)))) }

/-- runrig/typed.truth -/

def s76 : SFunc := { fid := 76,mode := .pure,nparams := 0,nboxes := 1,clr := [],results := [.box 0 0 3 true],body :=
 (.seq (.region [ .o 0 (.allocF 0 [.int .i64 0,.int .i64 0,.int .i64 0]) []] none []) (.seq (.region [
 .o 1 (.build [.int .i64 0,.int .i64 0,.int .i64 0] [(0,1)]) [.const (.int .i64 2)], .n (.storeF 0 3) [.t 0,.t 1]] none [1]) .ret)) }

/-- runrig/typed.number -/

def s77 : SFunc := { fid := 77,mode := .pure,nparams := 0,nboxes := 1,clr := [],results := [.box 0 0 3 true],body :=
 (.seq (.region [ .o 0 (.allocF 0 [.int .i64 0,.int .i64 0,.int .i64 0]) []] none []) (.seq (.region [
 .o 1 (.build [.int .i64 0,.int .i64 0,.int .i64 0] [(0,1)]) [.const (.int .i64 1)], .n (.storeF 0 3) [.t 0,.t 1]] none [1]) .ret)) }

/-- (*runrig/runrigref3.reader).behind -/
def s78_l0 : SCode :=
 (.seq (.seq (.region [ .o 7 .move [.t 0], .o 8 (.call 14) [.t 7,.const (.str [46])], .o 9 .move [.t 8], .z 10 .move [.t 0] 9,
 .z 11 (.call 14) [.t 10,.const (.str [91])] 9, .o 12 .pick [.t 9,.const (.bool true),.t 11]] none [7,8,9,10,11]) (.cond (.T 12) [] .skip [0] (.exit 0)))
 (.block 1 (.seq (.region [ .o 13 .move [.t 0], .o 14 (.call 13) [.t 13], .o 5 (.allocF 2 [.int .i64 0,.str [],.int .i64 0,.int .i64 0]) [],
 .n (.storeF 2 4) [.t 5,.t 14]] none [13,14]) (.seq (.seq (.region [ .o 15 .move [.t 0], .o 16 (.call 14) [.t 15,.const (.str [46])]] none [15])
 (.cond (.T 16) [] (.seq (.region [ .o 17 .move [.t 0], .o 18 .nilCheck [.t 17], .o 19 (.fieldAddr 1) [.T 18], .o 20 (.load false 1 false) [.T 19],
 .o 21 (.bin .add) [.t 20,.const (.int .i64 1)], .o 22 .nilCheck [.t 17], .o 23 (.fieldAddr 1) [.T 22], .n (.store 1) [.T 23,.t 21]] none [17,20,21]) (.seq
 (.region [ .o 24 .move [.t 0], .o 25 (.call 29) [.t 24], .o 26 (.loadF 0 true 11 false) [.t 3],
 .o 27 (.lit 11 1 [.int .i64 0,.int .i64 0,.str [],.str [],.int .i64 0,.nilSl,.int .i64 0,.int .i64 0,.int .i64 0,.int .i64 0,.int .i64 0] [0]) [.T 26],
 .o 28 (.fieldAddr 3) [.t 5], .o 29 (.loadF 2 false 1 false) [.t 28],
 .o 30 (.build [.int .i64 0,.int .i64 0,.str [],.str [],.int .i64 0,.nilSl,.int .i64 0,.int .i64 0,.int .i64 0,.int .i64 0,.int .i64 0] [(0,1),(2,1),(5,1),(6,1)]) [.const (.int .i64 5),.t 25,.T 27,.t 29],
 .n (.storeF 0 11) [.t 3,.T 30]] (some []) [5,24,25,28,29]) (.exit 1))) [] .skip)) (.seq (.region [ .o 31 .move [.t 0],
 .o 32 (.call 49) [.t 31,.const (.str [91])]] none [31,32]) (.seq (.region [ .o 33 .move [.t 0], .o 34 (.call 57) [.t 33,.const (.int .i64 0)],
 .o 6 (.allocF 3 [.int .i64 0,.int .i64 0,.str [],.str [],.int .i64 0,.nilSl,.int .i64 0,.int .i64 0,.int .i64 0,.int .i64 0,.int .i64 0]) [],
 .n (.storeF 3 11) [.t 6,.T 34]] none [33]) (.seq (.region [ .o 35 .move [.t 0], .o 36 (.call 51) [.t 35,.const (.str [93])]] none [35,36]) (.region [
 .o 37 (.loadF 0 true 11 false) [.t 3], .o 38 (.loadF 3 true 11 false) [.t 6],
 .o 39 (.lit 11 2 [.int .i64 0,.int .i64 0,.str [],.str [],.int .i64 0,.nilSl,.int .i64 0,.int .i64 0,.int .i64 0,.int .i64 0,.int .i64 0] [0,1]) [.T 37,.T 38],
 .o 40 (.fieldAddr 3) [.t 5], .o 41 (.loadF 2 false 1 false) [.t 40],
 .o 42 (.build [.int .i64 0,.int .i64 0,.str [],.str [],.int .i64 0,.nilSl,.int .i64 0,.int .i64 0,.int .i64 0,.int .i64 0,.int .i64 0] [(0,1),(5,1),(6,1)]) [.const (.int .i64 6),.T 39,.t 41],
 .n (.storeF 0 11) [.t 3,.T 42]] none [5,6,40,41]))))))))
def s78 : SFunc := { fid := 78,mode := .scp,nparams := 2,nboxes := 4,clr := [],results := [.box 4 1 11 true],body :=
 (.seq (.region [ .o 3 (.boxF 0 11) [.T 1],
 .o 4 (.allocF 1 [.int .i64 0,.int .i64 0,.str [],.str [],.int .i64 0,.nilSl,.int .i64 0,.int .i64 0,.int .i64 0,.int .i64 0,.int .i64 0]) []] none []) (.seq
 (.block 0 (.loop s78_l0)) (.seq (.region [ .o 43 (.loadF 0 true 11 false) [.t 3], .n (.storeF 1 11) [.t 4,.T 43]] none [3]) .ret))) }

/-- (*runrig/runrigref3.reader).first -/

def s79 : SFunc := { fid := 79,mode := .scp,nparams := 1,nboxes := 2,clr := [],results := [.box 2 0 11 true],body :=
 (.seq (.region [
 .o 2 (.allocF 0 [.int .i64 0,.int .i64 0,.str [],.str [],.int .i64 0,.nilSl,.int .i64 0,.int .i64 0,.int .i64 0,.int .i64 0,.int .i64 0]) []] none []) (.seq
 (.region [ .o 6 .move [.t 0], .o 7 (.call 13) [.t 6], .o 3 (.allocF 1 [.int .i64 0,.str [],.int .i64 0,.int .i64 0]) [],
 .n (.storeF 1 4) [.t 3,.t 7]] none [6,7]) (.seq (.block 0 (.seq (.region [ .o 9 .move [.t 0], .o 10 (.call 12) [.t 9], .o 11 .move [.t 10],
 .y 12 (.fieldAddr 0) [.t 3] 11, .y 13 (.loadF 1 false 1 false) [.t 12] 11, .y 14 (.bin .eql) [.t 13,.const (.int .i64 2)] 11,
 .o 15 .pick [.t 11,.t 14,.const (.bool false)], .o 8 .move [.t 15]] none [9,10,11,12,13,14,15]) (.cond (.T 8) [] (.seq (.region [ .o 16 .move [.t 0],
 .o 17 .nilCheck [.t 16], .o 18 (.fieldAddr 1) [.T 17], .o 19 (.load false 1 false) [.T 18], .o 20 (.bin .add) [.t 19,.const (.int .i64 1)],
 .o 21 .nilCheck [.t 16], .o 22 (.fieldAddr 1) [.T 21], .n (.store 1) [.T 22,.t 20]] none [0,16,19,20]) (.seq (.region [ .o 23 (.fieldAddr 2) [.t 3],
 .o 24 (.loadF 1 false 1 false) [.t 23], .o 25 (.fieldAddr 3) [.t 3], .o 26 (.loadF 1 false 1 false) [.t 25],
 .o 27 (.build [.int .i64 0,.int .i64 0,.str [],.str [],.int .i64 0,.nilSl,.int .i64 0,.int .i64 0,.int .i64 0,.int .i64 0,.int .i64 0] [(0,1),(1,1),(6,1)]) [.const (.int .i64 1),.t 24,.t 26],
 .n (.storeF 0 11) [.t 2,.T 27]] none [3,23,24,25,26]) .ret)) [] (.seq (.seq (.region [ .o 29 .move [.t 0],
 .o 30 (.call 14) [.t 29,.const (.str [116,114,117,101])], .o 28 .move [.t 30]] none [29,30]) (.cond (.t 28) [] .skip [28] (.region [ .o 31 .move [.t 0],
 .o 32 (.call 14) [.t 31,.const (.str [102,97,108,115,101])], .o 28 .move [.t 32]] none [31,32]))) (.cond (.T 28) [] (.seq (.region [ .o 33 .move [.t 0],
 .o 34 .nilCheck [.t 33], .o 35 (.fieldAddr 1) [.T 34], .o 36 (.load false 1 false) [.T 35], .o 37 (.bin .add) [.t 36,.const (.int .i64 1)],
 .o 38 .nilCheck [.t 33], .o 39 (.fieldAddr 1) [.T 38], .n (.store 1) [.T 39,.t 37]] none [0,33,36,37]) (.seq (.region [
 .o 4 .move [.const (.int .i64 0)]] none []) (.seq (.seq (.region [ .o 40 (.fieldAddr 1) [.t 3], .o 41 (.loadF 1 false 1 false) [.t 40],
 .o 42 (.bin .eql) [.t 41,.const (.str [116,114,117,101])]] none [40,41]) (.cond (.T 42) [4] (.region [ .o 4 .move [.const (.int .i64 1)]] none []) [] .skip))
 (.seq (.region [ .o 43 .move [.t 4], .o 44 (.fieldAddr 3) [.t 3], .o 45 (.loadF 1 false 1 false) [.t 44],
 .o 46 (.build [.int .i64 0,.int .i64 0,.str [],.str [],.int .i64 0,.nilSl,.int .i64 0,.int .i64 0,.int .i64 0,.int .i64 0,.int .i64 0] [(0,1),(1,1),(6,1)]) [.const (.int .i64 2),.t 43,.t 45],
 .n (.storeF 0 11) [.t 2,.T 46]] none [3,4,43,44,45]) .ret)))) [] (.seq (.region [ .o 48 .move [.t 0],
 .o 49 (.call 14) [.t 48,.const (.str [110,117,108,108])], .o 47 .move [.t 49]] none [48,49]) (.cond (.T 47) [] (.seq (.region [ .o 50 .move [.t 0],
 .o 51 .nilCheck [.t 50], .o 52 (.fieldAddr 1) [.T 51], .o 53 (.load false 1 false) [.T 52], .o 54 (.bin .add) [.t 53,.const (.int .i64 1)],
 .o 55 .nilCheck [.t 50], .o 56 (.fieldAddr 1) [.T 55], .n (.store 1) [.T 56,.t 54]] none [50,53,54]) (.seq (.region [ .o 57 .move [.t 0],
 .o 58 (.call 30) [.t 57], .o 59 (.fieldAddr 3) [.t 3], .o 60 (.loadF 1 false 1 false) [.t 59],
 .o 61 (.build [.int .i64 0,.int .i64 0,.str [],.str [],.int .i64 0,.nilSl,.int .i64 0,.int .i64 0,.int .i64 0,.int .i64 0,.int .i64 0] [(0,1),(3,2),(6,1)]) [.const (.int .i64 3),.t 58,.t 60],
 .n (.storeF 0 11) [.t 2,.T 61]] (some []) [0,3,57,58,59,60]) .ret)) [] (.seq (.region [ .o 63 .move [.t 0],
 .o 64 (.call 14) [.t 63,.const (.str [110,101,119])], .o 62 .move [.t 64]] none [63,64]) (.cond (.T 62) [] (.seq (.region [ .o 65 .move [.t 0],
 .o 66 .nilCheck [.t 65], .o 67 (.fieldAddr 1) [.T 66], .o 68 (.load false 1 false) [.T 67], .o 69 (.bin .add) [.t 68,.const (.int .i64 1)],
 .o 70 .nilCheck [.t 65], .o 71 (.fieldAddr 1) [.T 70], .n (.store 1) [.T 71,.t 69]] none [65,68,69]) (.seq (.region [ .o 72 .move [.t 0],
 .o 73 (.fieldAddr 3) [.t 3], .o 74 (.loadF 1 false 1 false) [.t 73], .o 75 (.call 85) [.t 72,.t 74], .n (.storeF 0 11) [.t 2,.T 75]] none [0,3,72,73,74])
 .ret)) [] (.seq (.region [ .o 77 .move [.t 0], .o 78 (.call 14) [.t 77,.const (.str [108,101,110])], .o 76 .move [.t 78]] none [77,78]) (.cond (.T 76) []
 (.seq (.region [ .o 79 .move [.t 0], .o 80 .nilCheck [.t 79], .o 81 (.fieldAddr 1) [.T 80], .o 82 (.load false 1 false) [.T 81],
 .o 83 (.bin .add) [.t 82,.const (.int .i64 1)], .o 84 .nilCheck [.t 79], .o 85 (.fieldAddr 1) [.T 84], .n (.store 1) [.T 85,.t 83]] none [79,82,83]) (.seq
 (.region [ .o 86 .move [.t 0], .o 87 (.call 86) [.t 86],
 .o 88 (.lit 11 1 [.int .i64 0,.int .i64 0,.str [],.str [],.int .i64 0,.nilSl,.int .i64 0,.int .i64 0,.int .i64 0,.int .i64 0,.int .i64 0] [0]) [.T 87],
 .o 89 (.fieldAddr 3) [.t 3], .o 90 (.loadF 1 false 1 false) [.t 89],
 .o 91 (.build [.int .i64 0,.int .i64 0,.str [],.str [],.int .i64 0,.nilSl,.int .i64 0,.int .i64 0,.int .i64 0,.int .i64 0,.int .i64 0] [(0,1),(5,1),(6,1)]) [.const (.int .i64 10),.T 88,.t 90],
 .n (.storeF 0 11) [.t 2,.T 91]] (some []) [0,3,86,89,90]) .ret)) [] (.seq (.region [ .o 93 .move [.t 0],
 .o 94 (.call 14) [.t 93,.const (.str [114,101,97,100])], .o 92 .move [.t 94]] none [93,94]) (.cond (.T 92) [] (.seq (.region [ .o 95 .move [.t 0],
 .o 96 .nilCheck [.t 95], .o 97 (.fieldAddr 1) [.T 96], .o 98 (.load false 1 false) [.T 97], .o 99 (.bin .add) [.t 98,.const (.int .i64 1)],
 .o 100 .nilCheck [.t 95], .o 101 (.fieldAddr 1) [.T 100], .n (.store 1) [.T 101,.t 99]] none [95,98,99]) (.seq (.region [ .o 102 .move [.t 0],
 .o 103 (.call 49) [.t 102,.const (.str [40])]] none [102,103]) (.seq (.region [ .o 104 .move [.t 0],
 .o 105 (.call 51) [.t 104,.const (.str [41])]] none [0,104,105]) (.seq (.region [ .o 106 (.fieldAddr 3) [.t 3], .o 107 (.loadF 1 false 1 false) [.t 106],
 .o 108 (.build [.int .i64 0,.int .i64 0,.str [],.str [],.int .i64 0,.nilSl,.int .i64 0,.int .i64 0,.int .i64 0,.int .i64 0,.int .i64 0] [(0,1),(6,1)]) [.const (.int .i64 11),.t 107],
 .n (.storeF 0 11) [.t 2,.T 108]] none [3,106,107]) .ret)))) [] (.seq (.region [ .o 110 .move [.t 0], .o 111 (.call 14) [.t 110,.const (.str [40])],
 .o 109 .move [.t 111]] none [110,111]) (.cond (.T 109) [3] (.seq (.region [ .o 112 .move [.t 0], .o 113 (.call 86) [.t 112],
 .n (.storeF 0 11) [.t 2,.T 113]] none [0,112]) .ret) [] .skip))))))))))))))) (.seq (.region [ .o 114 .move [.t 0], .o 115 (.call 29) [.t 114],
 .o 5 .move [.t 115]] none [114,115]) (.seq (.seq (.region [ .o 116 .move [.t 0], .o 117 (.call 14) [.t 116,.const (.str [40])],
 .o 118 (.un .not) [.t 117]] none [116,117]) (.cond (.T 118) [0] (.seq (.region [ .o 119 .move [.t 5], .o 120 (.fieldAddr 3) [.t 3],
 .o 121 (.loadF 1 false 1 false) [.t 120],
 .o 122 (.build [.int .i64 0,.int .i64 0,.str [],.str [],.int .i64 0,.nilSl,.int .i64 0,.int .i64 0,.int .i64 0,.int .i64 0,.int .i64 0] [(0,1),(2,1),(6,1)]) [.const (.int .i64 4),.t 119,.t 121],
 .n (.storeF 0 11) [.t 2,.T 122]] none [3,5,119,120,121]) .ret) [] .skip)) (.seq (.region [ .o 123 .move [.t 5], .o 124 .move [.t 0],
 .o 125 (.call 87) [.t 124], .o 126 (.fieldAddr 3) [.t 3], .o 127 (.loadF 1 false 1 false) [.t 126],
 .o 128 (.build [.int .i64 0,.int .i64 0,.str [],.str [],.int .i64 0,.nilSl,.int .i64 0,.int .i64 0,.int .i64 0,.int .i64 0,.int .i64 0] [(0,1),(2,1),(5,1),(6,1)]) [.const (.int .i64 7),.t 123,.T 125,.t 127],
 .n (.storeF 0 11) [.t 2,.T 128]] (some []) [0,3,5,123,124,126,127]) .ret)))))) }

/-- runrig/heads.Ref -/

def s80 : SFunc := { fid := 80,mode := .pure,nparams := 1,nboxes := 1,clr := [],results := [.tmp 2 false],body :=
 (.seq (.region [ .o 1 (.boxF 0 3) [.t 0], .o 2 .move [.const (.bool false)]] none [0,2]) (.seq (.region [ .o 3 (.fieldAddr 0) [.t 1],
 .o 4 (.loadF 0 false 1 false) [.t 3], .o 5 (.bin .eql) [.t 4,.const (.int .i64 3)], .o 6 .move [.t 5], .z 7 (.fieldAddr 2) [.t 1] 6,
 .z 8 (.loadF 0 false 1 false) [.t 7] 6, .z 9 (.bin .gtr) [.t 8,.const (.int .i64 0)] 6, .o 10 .pick [.t 6,.const (.bool true),.t 9],
 .o 2 .move [.t 10]] none [1,3,4,5,6,7,8,9,10]) .ret)) }

/-- (*runrig/typed.checker).field -/

def s81 : SFunc := { fid := 81,mode := .scp,nparams := 2,nboxes := 3,clr := [],results := [.box 4 1 3 true,.tmp 5 false,.tmp 6 false],body :=
 (.seq (.region [ .o 3 (.boxF 0 11) [.T 1], .o 4 (.allocF 1 [.int .i64 0,.int .i64 0,.int .i64 0]) [], .o 5 .move [.const (.int .i64 0)],
 .o 6 .move [.const (.bool false)]] none [5,6]) (.seq (.region [ .o 10 (.fieldAddr 5) [.t 3], .o 11 (.loadF 0 false 1 false) [.t 10],
 .o 12 (.indexAddr 11) [.T 11,.const (.int .i64 0)], .o 13 (.fieldAddr 7) [.T 12], .o 14 (.load true 3 false) [.T 13],
 .o 7 (.allocF 2 [.int .i64 0,.int .i64 0,.int .i64 0]) [], .n (.storeF 2 3) [.t 7,.t 14]] none [10,14]) (.seq (.seq (.region [ .o 15 (.fieldAddr 0) [.t 7],
 .o 16 (.loadF 2 false 1 false) [.t 15], .o 17 (.bin .neq) [.t 16,.const (.int .i64 3)], .o 18 .move [.t 17], .z 19 (.fieldAddr 2) [.t 7] 18,
 .z 20 (.loadF 2 false 1 false) [.t 19] 18, .z 21 (.bin .neq) [.t 20,.const (.int .i64 0)] 18,
 .o 22 .pick [.t 18,.const (.bool true),.t 21]] none [15,16,17,18,19,20,21]) (.cond (.T 22) [0,3,7] (.seq (.region [ .o 23 (.call 61) [],
 .n (.storeF 1 3) [.t 4,.t 23], .o 5 .move [.const (.int .i64 0)], .o 6 .move [.const (.bool false)]] none [23]) .ret) [] .skip)) (.seq (.region [
 .o 24 .move [.t 0], .o 25 .nilCheck [.t 24], .o 26 (.fieldAddr 0) [.T 25], .o 27 (.fieldAddr 0) [.T 26], .o 28 (.load false 1 false) [.T 27],
 .o 29 (.fieldAddr 1) [.t 7], .o 30 (.loadF 2 false 1 false) [.t 29], .o 31 (.indexAddr 2) [.T 28,.t 30], .o 32 (.fieldAddr 1) [.T 31],
 .o 33 (.load false 1 false) [.T 32], .o 8 .move [.T 33]] (some []) [0,7,24,29,30]) (.seq (.region [ .o 34 .move [.t 8], .o 35 (.fieldAddr 2) [.t 3],
 .o 36 (.loadF 0 false 1 false) [.t 35], .o 37 (.call 84) [.T 34,.t 36], .o 9 .move [.t 37]] none [3,35,36,37]) (.seq (.seq (.region [ .o 38 .move [.t 9],
 .o 39 (.bin .lss) [.t 38,.const (.int .i64 0)]] none [38]) (.cond (.T 39) [8,9] (.seq (.region [ .o 40 (.call 61) [], .n (.storeF 1 3) [.t 4,.t 40],
 .o 5 .move [.const (.int .i64 0)], .o 6 .move [.const (.bool false)]] none [40]) .ret) [] .skip)) (.seq (.region [ .o 41 .move [.T 8], .o 42 .move [.t 9],
 .o 43 (.indexAddr 4) [.T 41,.t 42], .o 44 (.fieldAddr 1) [.T 43], .o 45 (.load true 3 false) [.T 44], .o 46 .move [.t 9], .n (.storeF 1 3) [.t 4,.t 45],
 .o 5 .move [.t 46], .o 6 .move [.const (.bool true)]] none [9,42,45,46]) .ret))))))) }

/-- (*runrig/typed.checker).call -/
def s82_l0 : SCode :=
 (.seq (.region [ .o 47 (.bin .lss) [.t 46,.t 45]] none []) (.seq (.cond (.T 47) [] .skip [3,44,45,46] (.exit 0)) (.seq (.block 1 (.seq (.region [
 .o 48 .move [.t 46], .o 49 (.indexAddr 4) [.t 44,.t 46], .o 50 (.load true 4 false) [.T 49],
 .o 9 (.allocF 1 [.str [],.int .i64 0,.int .i64 0,.int .i64 0]) [], .o 8 .move [.t 48], .n (.storeF 1 4) [.t 9,.t 50]] none [48,50]) (.seq (.region [
 .o 51 (.fieldAddr 5) [.t 3], .o 52 (.load false 1 false) [.T 51], .o 53 .move [.t 8], .o 54 (.indexAddr 11) [.T 52,.t 53], .o 55 (.fieldAddr 7) [.T 54],
 .o 56 (.load true 3 false) [.T 55], .o 57 (.fieldAddr 1) [.t 9], .o 58 (.loadF 1 true 3 false) [.t 57],
 .o 59 (.eqv (.flat [.int,.int,.int]) true) [.t 56,.t 58]] (some []) [8,9,53,56,57,58]) (.cond (.T 59) [0,3,7,44,45,46] (.seq (.region [ .o 60 (.call 61) [],
 .n (.storeF 0 3) [.t 4,.t 60], .o 5 .move [.const (.int .i64 0)], .o 6 .move [.const (.bool false)]] none [60]) .ret) [] .skip)))) (.region [
 .o 61 (.bin .add) [.t 46,.const (.int .i64 1)], .o 46 .move [.t 61]] none [61]))))
def s82 : SFunc := { fid := 82,mode := .scp,nparams := 2,nboxes := 2,clr := [],results := [.box 4 0 3 true,.tmp 5 false,.tmp 6 false],body :=
 (.seq (.region [ .o 3 (.box 11) [.T 1], .o 4 (.allocF 0 [.int .i64 0,.int .i64 0,.int .i64 0]) [], .o 5 .move [.const (.int .i64 0)],
 .o 6 .move [.const (.bool false)]] none [5,6]) (.seq (.region [ .o 10 .move [.t 0], .o 11 .nilCheck [.t 10], .o 12 (.fieldAddr 0) [.T 11],
 .o 13 (.fieldAddr 2) [.T 12], .o 14 (.load false 1 false) [.T 13], .o 15 (.makeFunc 88 0) [.t 3], .o 16 (.call 35) [.T 14,.t 15],
 .o 7 .move [.t 16]] none [10,15,16]) (.seq (.seq (.region [ .o 17 .move [.t 7], .o 18 (.bin .lss) [.t 17,.const (.int .i64 0)], .o 19 .move [.t 18],
 .z 20 .move [.t 0] 19, .z 21 .nilCheck [.t 20] 19, .z 22 (.fieldAddr 0) [.T 21] 19, .z 23 (.fieldAddr 2) [.T 22] 19, .z 24 (.load false 1 false) [.T 23] 19,
 .z 25 .move [.t 7] 19, .z 26 (.indexAddr 6) [.T 24,.t 25] 19, .z 27 (.fieldAddr 1) [.T 26] 19, .z 28 (.load false 1 false) [.T 27] 19,
 .z 29 (.len .sl) [.T 28] 19, .z 30 (.fieldAddr 5) [.t 3] 19, .z 31 (.load false 1 false) [.T 30] 19, .z 32 (.len .sl) [.T 31] 19,
 .z 33 (.bin .neq) [.t 29,.t 32] 19, .o 34 .pick [.t 19,.const (.bool true),.t 33]] (some []) [17,18,19,20,21,22,23,24,25,26,27,28,29,30,31,32,33])
 (.cond (.T 34) [0,3,7] (.seq (.region [ .o 35 (.call 61) [], .n (.storeF 0 3) [.t 4,.t 35], .o 5 .move [.const (.int .i64 0)],
 .o 6 .move [.const (.bool false)]] none [35]) .ret) [] .skip)) (.seq (.seq (.region [ .o 36 .move [.t 0], .o 37 .nilCheck [.t 36],
 .o 38 (.fieldAddr 0) [.T 37], .o 39 (.fieldAddr 2) [.T 38], .o 40 (.load false 1 false) [.T 39], .o 41 .move [.t 7], .o 42 (.indexAddr 6) [.T 40,.t 41],
 .o 43 (.fieldAddr 1) [.T 42], .o 44 (.load false 1 false) [.T 43], .o 45 (.len .sl) [.t 44], .o 46 .move [.const (.int .i64 0)]] none [36,41]) (.block 0
 (.loop s82_l0))) (.seq (.region [ .o 62 .move [.t 0], .o 63 .nilCheck [.t 62], .o 64 (.fieldAddr 0) [.T 63], .o 65 (.fieldAddr 2) [.T 64],
 .o 66 (.load false 1 false) [.T 65], .o 67 .move [.t 7], .o 68 (.indexAddr 6) [.T 66,.t 67], .o 69 (.fieldAddr 3) [.T 68], .o 70 (.load true 3 false) [.T 69],
 .o 71 .move [.t 7], .n (.storeF 0 3) [.t 4,.t 70], .o 5 .move [.t 71], .o 6 .move [.const (.bool true)]] none [0,7,62,67,70,71]) .ret))))) }

end Code8z
