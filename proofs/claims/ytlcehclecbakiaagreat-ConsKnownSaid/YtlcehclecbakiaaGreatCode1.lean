/- The annotated code of the loaded program,printed by wip/tools/gen.py. -/
import Derived.Test.YtlcehclecbakiaaGreatA6

set_option maxRecDepth 100000
namespace Code19
open Ax Go

/-- runrig/runriglaw19.ConsMake -/

def s3 : SFunc := { fid := 3,mode := .pure,nparams := 1,nboxes := 1,clr := [],results := [.tmp 2 false],body :=
 (.seq (.region [ .o 1 (.boxF 0 5) [.T 0], .o 2 .move [.const (.bool false)]] none [2]) (.seq (.seq (.region [ .o 3 (.loadF 0 true 5 false) [.t 1],
 .o 4 (.call 8) [.T 3]] none []) (.cond (.T 4) [1] (.seq (.region [ .o 2 .move [.const (.bool true)]] none []) .ret) [] .skip)) (.seq (.region [
 .o 5 (.loadF 0 true 5 false) [.t 1], .o 6 (.call 10) [.T 5], .o 7 (.loadF 0 true 5 false) [.t 1], .o 8 (.call 11) [.T 7], .o 9 (.call 9) [.T 6,.T 8],
 .o 10 .move [.T 9], .y 11 (.loadF 0 true 5 false) [.t 1] 10, .y 12 (.call 12) [.T 11] 10, .y 13 (.loadF 0 true 5 false) [.t 1] 10,
 .y 14 (.call 13) [.T 13] 10, .y 15 (.bin .eql) [.T 12,.T 14] 10, .o 16 .pick [.t 10,.T 15,.const (.bool false)], .o 17 .move [.T 16], .y 18 (.call 14) [] 17,
 .o 19 .pick [.t 17,.T 18,.const (.bool false)], .o 2 .move [.T 19]] (some []) [1,10,11,12,13,14,17]) .ret))) }

/-- runrig/runriglaw19.ConsTexts -/
def s4_l0 : SCode :=
 (.seq (.seq (.region [ .o 35 .move [.t 8], .o 36 (.fieldAddr 2) [.t 5], .o 37 (.loadF 2 false 1 false) [.T 36], .o 38 (.len .sl) [.T 37],
 .o 39 (.bin .lss) [.T 35,.T 38]] none []) (.cond (.T 39) [] .skip [8] (.exit 0))) (.seq (.block 1 (.region [ .o 42 .move [.T 7], .o 43 (.fieldAddr 2) [.t 5],
 .o 44 (.loadF 2 false 1 false) [.T 43], .o 45 .move [.t 8], .o 46 (.indexAddr 7) [.T 44,.T 45], .o 47 (.fieldAddr 1) [.T 46],
 .o 48 (.load false 1 false) [.T 47], .o 49 (.append 3 24) [.T 42,.T 48], .o 7 .move [.T 49]] none [])) (.region [ .o 40 .move [.T 8],
 .o 41 (.bin .add) [.T 40,.const (.int .i64 1)], .o 8 .move [.T 41]] none [])))
def s4_l1 : SCode :=
 (.seq (.seq (.region [ .o 50 .move [.t 9], .o 51 (.fieldAddr 2) [.t 5], .o 52 (.loadF 2 false 1 false) [.T 51], .o 53 (.len .sl) [.T 52],
 .o 54 (.bin .lss) [.T 50,.T 53]] none []) (.cond (.T 54) [] .skip [9] (.exit 2))) (.seq (.block 3 (.region [ .o 57 .move [.T 7], .o 58 (.fieldAddr 2) [.t 5],
 .o 59 (.loadF 2 false 1 false) [.T 58], .o 60 .move [.t 9], .o 61 (.indexAddr 7) [.T 59,.T 60], .o 62 (.fieldAddr 3) [.T 61],
 .o 63 (.load true 3 false) [.T 62], .o 64 (.lit 3 1 [.int .i64 0,.int .i64 0,.int .i64 0] [0]) [.T 63], .o 65 (.append 3 24) [.T 57,.T 64],
 .o 7 .move [.T 65]] none [])) (.region [ .o 55 .move [.T 9], .o 56 (.bin .add) [.T 55,.const (.int .i64 1)], .o 9 .move [.T 56]] none [])))
def s4_l2 : SCode :=
 (.seq (.seq (.region [ .o 72 .move [.t 11], .o 73 .move [.t 10], .o 74 (.len .sl) [.T 73], .o 75 (.bin .lss) [.T 72,.T 74]] none []) (.cond (.T 75) []
 .skip [11] (.exit 4))) (.seq (.block 5 (.seq (.region [ .o 78 .move [.t 10], .o 79 .move [.t 11], .o 80 (.indexAddr 4) [.T 78,.T 79],
 .o 81 (.load true 4 false) [.T 80], .o 12 (.allocF 4 [.int .i64 0,.int .i64 0,.int .i64 0,.int .i64 0]) [], .n (.storeF 4 4) [.t 12,.T 81]] none []) (.seq
 (.seq (.region [ .o 82 (.fieldAddr 1) [.t 12], .o 83 (.loadF 4 false 1 false) [.T 82], .o 84 (.bin .lss) [.T 83,.const (.int .i64 0)], .o 85 .move [.T 84],
 .z 86 (.fieldAddr 1) [.t 12] 85, .z 87 (.loadF 4 false 1 false) [.T 86] 85, .z 88 .move [.t 7] 85, .z 89 (.len .sl) [.T 88] 85,
 .z 90 (.bin .geq) [.T 87,.T 89] 85, .o 91 .pick [.T 85,.const (.bool true),.T 90], .o 92 .move [.T 91], .z 93 (.fieldAddr 2) [.t 12] 92,
 .z 94 (.loadF 4 false 1 false) [.T 93] 92, .z 95 (.bin .lss) [.T 94,.const (.int .i64 0)] 92, .o 96 .pick [.T 92,.const (.bool true),.T 95],
 .o 97 .move [.T 96], .z 98 .move [.t 7] 97, .z 99 (.fieldAddr 1) [.t 12] 97, .z 100 (.loadF 4 false 1 false) [.T 99] 97,
 .z 101 (.indexAddr 3) [.T 98,.T 100] 97, .z 102 (.load true 3 false) [.T 101] 97, .z 103 (.call 17) [.T 102] 97, .z 104 (.un .not) [.T 103] 97,
 .o 105 .pick [.T 97,.const (.bool true),.T 104]] none [86,87,88,89,93,94,98,99,100,101,102,103]) (.cond (.T 105) [5,7,10,11,12] (.seq (.region [
 .o 2 .move [.const (.bool false)]] none []) .ret) [] .skip)) (.seq (.region [ .o 106 (.fieldAddr 0) [.t 12],
 .o 107 (.loadF 4 false 1 false) [.T 106]] none []) (.block 6 (.seq (.region [ .o 109 (.bin .eql) [.t 107,.const (.int .i64 1)],
 .o 108 .move [.T 109]] none []) (.cond (.T 108) [107] (.seq (.region [ .o 110 (.fieldAddr 2) [.t 12], .o 111 (.loadF 4 false 1 false) [.T 110],
 .o 112 (.fieldAddr 3) [.t 5], .o 113 (.loadF 2 false 1 false) [.T 112], .o 114 (.len .sl) [.T 113], .o 115 (.bin .geq) [.T 111,.T 114], .o 116 .move [.T 115],
 .z 117 (.fieldAddr 3) [.t 5] 116, .z 118 (.loadF 2 false 1 false) [.T 117] 116, .z 119 (.fieldAddr 2) [.t 12] 116,
 .z 120 (.loadF 4 false 1 false) [.T 119] 116, .z 121 (.indexAddr 4) [.T 118,.T 120] 116, .z 122 (.fieldAddr 1) [.T 121] 116,
 .z 123 (.load true 3 false) [.T 122] 116, .z 124 .move [.t 7] 116, .z 125 (.fieldAddr 1) [.t 12] 116, .z 126 (.loadF 4 false 1 false) [.T 125] 116,
 .z 127 (.indexAddr 3) [.T 124,.T 126] 116, .z 128 (.load true 3 false) [.T 127] 116, .z 129 (.eqv (.flat [.int,.int,.int]) true) [.T 123,.T 128] 116,
 .o 130 .pick [.t 116,.const (.bool true),.T 129]] (some []) [12,116,117,118,119,120,121,122,123,124,125,126,127,128]) (.cond (.T 130) [5,7,10,11] (.seq
 (.region [ .o 2 .move [.const (.bool false)]] none []) .ret) [] .skip)) [] (.seq (.region [ .o 132 (.bin .eql) [.t 107,.const (.int .i64 2)],
 .o 131 .move [.T 132]] none []) (.cond (.T 131) [107] (.seq (.region [ .o 133 (.fieldAddr 2) [.t 12], .o 134 (.loadF 4 false 1 false) [.T 133],
 .o 135 .move [.t 7], .o 136 (.len .sl) [.T 135], .o 137 (.bin .geq) [.T 134,.T 136], .o 138 .move [.T 137], .z 139 .move [.t 7] 138,
 .z 140 (.fieldAddr 1) [.t 12] 138, .z 141 (.loadF 4 false 1 false) [.T 140] 138, .z 142 (.indexAddr 3) [.T 139,.T 141] 138,
 .z 143 (.load true 3 false) [.T 142] 138, .z 144 .move [.t 7] 138, .z 145 (.fieldAddr 2) [.t 12] 138, .z 146 (.loadF 4 false 1 false) [.T 145] 138,
 .z 147 (.indexAddr 3) [.T 144,.T 146] 138, .z 148 (.load true 3 false) [.T 147] 138, .z 149 (.eqv (.flat [.int,.int,.int]) true) [.T 143,.T 148] 138,
 .o 150 .pick [.t 138,.const (.bool true),.T 149]] (some []) [12,138,139,140,141,142,143,144,145,146,147,148]) (.cond (.T 150) [5,7,10,11] (.seq (.region [
 .o 2 .move [.const (.bool false)]] none []) .ret) [] .skip)) [] (.seq (.seq (.region [ .o 152 (.bin .eql) [.t 107,.const (.int .i64 3)],
 .o 151 .move [.T 152]] none []) (.cond (.t 151) [107] .skip [151] (.region [ .o 153 (.bin .eql) [.T 107,.const (.int .i64 4)],
 .o 151 .move [.T 153]] none []))) (.cond (.T 151) [] (.seq (.region [ .o 154 (.fieldAddr 2) [.t 12], .o 155 (.loadF 4 false 1 false) [.T 154],
 .o 156 .move [.t 7], .o 157 (.len .sl) [.T 156], .o 158 (.bin .geq) [.T 155,.T 157], .o 159 .move [.T 158], .z 160 .move [.t 7] 159,
 .z 161 (.fieldAddr 2) [.t 12] 159, .z 162 (.loadF 4 false 1 false) [.T 161] 159, .z 163 (.indexAddr 3) [.T 160,.T 162] 159,
 .z 164 (.load true 3 false) [.T 163] 159, .z 165 (.call 17) [.T 164] 159, .z 166 (.un .not) [.T 165] 159, .o 167 .pick [.T 159,.const (.bool true),.T 166],
 .o 168 .move [.T 167], .z 169 (.fieldAddr 3) [.t 12] 168, .z 170 (.loadF 4 false 1 false) [.T 169] 168, .z 171 (.bin .lss) [.T 170,.const (.int .i64 0)] 168,
 .o 172 .pick [.T 168,.const (.bool true),.T 171], .o 173 .move [.T 172], .z 174 (.fieldAddr 3) [.T 12] 173, .z 175 (.loadF 4 false 1 false) [.T 174] 173,
 .z 176 (.bin .geq) [.T 175,.const (.int .i64 8)] 173, .o 177 .pick [.T 173,.const (.bool true),.T 176]] none [12,160,161,162,163,164,165,169,170,174,175])
 (.cond (.T 177) [5,7,10,11] (.seq (.region [ .o 2 .move [.const (.bool false)]] none []) .ret) [] .skip)) [5,7,10,11,12] (.seq (.region [
 .o 2 .move [.const (.bool false)]] none []) .ret)))))))))))) (.region [ .o 76 .move [.T 11], .o 77 (.bin .add) [.T 76,.const (.int .i64 1)],
 .o 11 .move [.T 77]] none [])))
def s4 : SFunc := { fid := 4,mode := .pure,nparams := 1,nboxes := 5,clr := [],results := [.tmp 2 false],body :=
 (.seq (.region [ .o 2 .move [.const (.bool false)]] none [2]) (.seq (.region [ .o 14 .move [.t 0], .o 15 (.call 15) [.T 14], .o 13 .move [.T 15],
 .o 16 (.extract 0) [.t 13], .o 17 (.extract 1) [.T 13], .o 3 (.allocF 0 [.nilSl,.nilSl,.nilSl]) [], .o 4 (.allocF 1 [.int .i64 0,.int .i64 0]) [],
 .n (.storeF 0 3) [.t 3,.T 16], .n (.storeF 1 2) [.t 4,.T 17]] none []) (.seq (.seq (.region [ .o 18 .move [.T 0], .o 19 (.len .str) [.T 18],
 .o 20 (.bin .gtr) [.T 19,.const (.int .i64 4000)], .o 21 .move [.T 20], .z 22 (.fieldAddr 0) [.T 4] 21, .z 23 (.loadF 1 false 1 false) [.T 22] 21,
 .z 24 (.bin .neq) [.T 23,.const (.int .i64 0)] 21, .o 25 .pick [.T 21,.const (.bool true),.T 24]] none [4,22,23]) (.cond (.T 25) [3] (.seq (.region [
 .o 2 .move [.const (.bool true)]] none []) .ret) [] .skip)) (.seq (.region [ .o 27 (.loadF 0 true 3 false) [.T 3], .o 28 (.call 16) [.T 27],
 .o 26 .move [.T 28], .o 29 (.extract 0) [.t 26], .o 30 (.extract 1) [.T 26], .o 5 (.allocF 2 [.nilSl,.nilSl,.nilSl,.nilSl,.int .i64 0]) [],
 .o 6 (.allocF 3 [.int .i64 0,.int .i64 0]) [], .n (.storeF 2 5) [.t 5,.T 29], .n (.storeF 3 2) [.t 6,.T 30]] none []) (.seq (.seq (.region [
 .o 31 (.fieldAddr 0) [.T 6], .o 32 (.loadF 3 false 1 false) [.T 31], .o 33 (.bin .neq) [.T 32,.const (.int .i64 0)]] none []) (.cond (.T 33) [5] (.seq
 (.region [ .o 34 (.call 14) [], .o 2 .move [.T 34]] none []) .ret) [] .skip)) (.seq (.region [ .o 7 .move [.const .nilSl]] none []) (.seq (.seq (.region [
 .o 8 .move [.const (.int .i64 0)]] none []) (.block 0 (.loop s4_l0))) (.seq (.seq (.region [ .o 9 .move [.const (.int .i64 0)]] none []) (.block 2
 (.loop s4_l1))) (.seq (.region [ .o 66 .move [.T 7], .o 67 (.fieldAddr 1) [.t 5], .o 68 (.loadF 2 false 1 false) [.T 67], .o 69 (.append 3 24) [.T 66,.T 68],
 .o 7 .move [.T 69]] none []) (.seq (.region [ .o 70 (.loadF 2 true 5 false) [.t 5], .o 71 (.call 10) [.T 70], .o 10 .move [.T 71]] none []) (.seq (.seq
 (.region [ .o 11 .move [.const (.int .i64 0)]] none []) (.block 4 (.loop s4_l2))) (.seq (.region [ .o 178 (.loadF 2 true 5 false) [.t 5],
 .o 179 (.call 12) [.T 178], .o 180 .move [.T 7], .o 181 (.len .sl) [.T 180], .o 182 (.bin .eql) [.T 179,.T 181], .o 183 .move [.T 182],
 .y 184 (.loadF 2 true 5 false) [.t 5] 183, .y 185 (.call 18) [.T 184] 183, .o 186 .pick [.T 183,.T 185,.const (.bool false)], .o 187 .move [.T 186],
 .y 188 .move [.T 10] 187, .y 189 (.loadF 2 true 5 false) [.T 5] 187, .y 190 (.call 11) [.T 189] 187, .y 191 (.call 9) [.T 188,.T 190] 187,
 .o 192 .pick [.T 187,.T 191,.const (.bool false)], .o 193 .move [.T 192], .y 194 (.call 14) [] 193, .o 195 .pick [.T 193,.T 194,.const (.bool false)],
 .o 2 .move [.T 195]] none [5,10,184,188,189,190]) .ret)))))))))))) }

/-- runrig/runriglaw19.ConsKnown -/
def s5_l0 : SCode :=
 (.seq (.seq (.region [ .o 55 .move [.t 12], .o 56 .move [.t 10], .o 57 (.len .sl) [.T 56], .o 58 (.bin .lss) [.T 55,.T 57]] none []) (.cond (.T 58) []
 .skip [10,12] (.exit 0))) (.seq (.block 1 (.seq (.seq (.region [ .o 61 .move [.t 10], .o 62 .move [.t 12], .o 63 (.indexAddr 4) [.T 61,.T 62],
 .o 64 (.fieldAddr 0) [.T 63], .o 65 (.load false 1 false) [.T 64], .o 66 (.bin .lss) [.T 65,.const (.int .i64 1)], .o 67 .move [.T 66],
 .z 68 .move [.t 10] 67, .z 69 .move [.t 12] 67, .z 70 (.indexAddr 4) [.T 68,.T 69] 67, .z 71 (.fieldAddr 0) [.T 70] 67,
 .z 72 (.load false 1 false) [.T 71] 67, .z 73 (.bin .gtr) [.T 72,.const (.int .i64 4)] 67,
 .o 74 .pick [.T 67,.const (.bool true),.T 73]] none [68,69,70,71,72]) (.cond (.T 74) [0,5,9,10,11,12] (.seq (.region [
 .o 2 .move [.const (.bool false)]] none []) .ret) [] .skip)) (.region [ .o 75 .move [.t 11], .o 76 .move [.t 10], .o 77 .move [.t 12],
 .o 78 (.indexAddr 4) [.T 76,.T 77], .o 79 (.fieldAddr 0) [.T 78], .o 80 (.load false 1 false) [.T 79], .o 81 (.bin .sub) [.T 80,.const (.int .i64 1)],
 .o 82 (.indexAddr 1) [.t 75,.t 81], .o 83 (.load false 1 false) [.T 82], .o 84 (.bin .add) [.T 83,.const (.int .i64 1)], .o 85 (.indexAddr 1) [.T 75,.T 81],
 .n (.store 1) [.T 85,.T 84]] none []))) (.region [ .o 59 .move [.T 12], .o 60 (.bin .add) [.T 59,.const (.int .i64 1)], .o 12 .move [.T 60]] none [])))
def s5_l1 : SCode :=
 (.seq (.seq (.region [ .o 86 .move [.t 13], .o 87 (.bin .lss) [.T 86,.const (.int .i64 4)]] none []) (.cond (.T 87) [] .skip [0,5,11,13] (.exit 2))) (.seq
 (.block 3 (.seq (.region [ .o 90 .move [.t 11], .o 91 .move [.t 13], .o 92 (.indexAddr 1) [.T 90,.T 91], .o 93 (.load false 1 false) [.T 92],
 .o 94 .move [.t 5], .o 95 .move [.t 0], .o 96 (.indexAddr 1) [.T 94,.T 95], .o 97 (.load false 1 false) [.T 96], .o 98 .move [.t 13],
 .o 99 (.indexAddr 1) [.T 97,.T 98], .o 100 (.load false 1 false) [.T 99], .o 101 (.bin .neq) [.T 93,.T 100]] (some []) []) (.cond (.T 101) [0,5,9,11,13] (.seq
 (.region [ .o 2 .move [.const (.bool false)]] none []) .ret) [] .skip))) (.region [ .o 88 .move [.T 13], .o 89 (.bin .add) [.T 88,.const (.int .i64 1)],
 .o 13 .move [.T 89]] none [])))
def s5 : SFunc := { fid := 5,mode := .pure,nparams := 1,nboxes := 4,clr := [],results := [.tmp 2 false],body :=
 (.seq (.region [ .o 2 .move [.const (.bool false)]] none [2]) (.seq (.region [
 .o 3 .move [.const (.str [114,101,99,111,114,100,32,82,32,123,32,97,58,32,105,110,116,59,32,110,58,32,82,59,32,125,32,103,108,111,98,97,108,32,103,58,32,82,59,32,102,117,110,99,32,102,40,114,58,32,82,44,32,107,58,32,105,110,116,41,58,32,82,32,123,32,114,101,116,117,114,110,32,114,59,32,125,32,102,117,110,99,32,109,97,105,110,40,41,32,123,32,108,101,116,32,114,58,32,82,32,61,32,110,117,108,108,32,82,59,32])]] none [])
 (.seq (.region [
 .o 14 (.lit 1 12 [.str []] [0,1,2,3,4,5,6,7,8,9,10,11]) [.const (.str []),.const (.str [114,32,61,32,110,101,119,32,82,59]),.const (.str [114,46,110,32,61,32,114,59]),.const (.str [108,101,116,32,113,58,32,82,32,61,32,114,46,110,59]),.const (.str [108,101,116,32,107,58,32,105,110,116,32,61,32,114,46,97,59]),.const (.str [114,46,97,32,61,32,51,59]),.const (.str [103,32,61,32,114,59]),.const (.str [114,32,61,32,103,59]),.const (.str [114,32,61,32,102,40,114,44,32,49,41,59]),.const (.str [108,101,116,32,97,58,32,91,82,93,32,61,32,110,101,119,32,91,82,93,40,50,41,59,32,97,91,48,93,32,61,32,114,59]),.const (.str [108,101,116,32,97,58,32,91,105,110,116,93,32,61,32,110,101,119,32,91,105,110,116,93,40,50,41,59,32,97,91,48,93,32,61,32,49,59]),.const (.str [108,101,116,32,98,58,32,98,111,111,108,32,61,32,114,32,61,61,32,114,59])],
 .o 4 .move [.T 14]] none []) (.seq (.region [
 .o 15 (.lit 1 4 [.int .i64 0] [0,1,2,3]) [.const (.int .i64 0),.const (.int .i64 3),.const (.int .i64 0),.const (.int .i64 0)],
 .o 16 (.lit 1 4 [.int .i64 0] [0,1,2,3]) [.const (.int .i64 1),.const (.int .i64 4),.const (.int .i64 0),.const (.int .i64 0)],
 .o 17 (.lit 1 4 [.int .i64 0] [0,1,2,3]) [.const (.int .i64 0),.const (.int .i64 3),.const (.int .i64 0),.const (.int .i64 1)],
 .o 18 (.lit 1 4 [.int .i64 0] [0,1,2,3]) [.const (.int .i64 0),.const (.int .i64 4),.const (.int .i64 1),.const (.int .i64 0)],
 .o 19 (.lit 1 4 [.int .i64 0] [0,1,2,3]) [.const (.int .i64 0),.const (.int .i64 3),.const (.int .i64 0),.const (.int .i64 0)],
 .o 20 (.lit 1 4 [.int .i64 0] [0,1,2,3]) [.const (.int .i64 0),.const (.int .i64 3),.const (.int .i64 0),.const (.int .i64 0)],
 .o 21 (.lit 1 4 [.int .i64 0] [0,1,2,3]) [.const (.int .i64 0),.const (.int .i64 4),.const (.int .i64 0),.const (.int .i64 0)],
 .o 22 (.lit 1 4 [.int .i64 0] [0,1,2,3]) [.const (.int .i64 0),.const (.int .i64 5),.const (.int .i64 0),.const (.int .i64 0)],
 .o 23 (.lit 1 4 [.int .i64 0] [0,1,2,3]) [.const (.int .i64 0),.const (.int .i64 6),.const (.int .i64 0),.const (.int .i64 0)],
 .o 24 (.lit 1 4 [.int .i64 0] [0,1,2,3]) [.const (.int .i64 1),.const (.int .i64 4),.const (.int .i64 0),.const (.int .i64 1)],
 .o 25 (.lit 1 4 [.int .i64 0] [0,1,2,3]) [.const (.int .i64 1),.const (.int .i64 4),.const (.int .i64 0),.const (.int .i64 0)],
 .o 26 (.lit 1 4 [.int .i64 0] [0,1,2,3]) [.const (.int .i64 0),.const (.int .i64 3),.const (.int .i64 0),.const (.int .i64 0)],
 .o 27 (.lit 1 12 [.nilSl] [0,1,2,3,4,5,6,7,8,9,10,11]) [.T 15,.T 16,.T 17,.T 18,.T 19,.T 20,.T 21,.T 22,.T 23,.T 24,.T 25,.T 26], .o 5 .move [.T 27]] none [])
 (.seq (.seq (.region [ .o 28 .move [.t 0], .o 29 (.bin .lss) [.T 28,.const (.int .i64 0)], .o 30 .move [.T 29], .z 31 .move [.t 0] 30, .z 32 .move [.t 4] 30,
 .z 33 (.len .sl) [.T 32] 30, .z 34 (.bin .geq) [.T 31,.T 33] 30, .o 35 .pick [.T 30,.const (.bool true),.T 34]] none [31,32,33]) (.cond (.T 35) [0,3,4,5]
 (.seq (.region [ .o 2 .move [.const (.bool true)]] none []) .ret) [] .skip)) (.seq (.region [ .o 37 .move [.T 3], .o 38 .move [.T 4], .o 39 .move [.t 0],
 .o 40 (.indexAddr 1) [.T 38,.T 39], .o 41 (.load false 1 false) [.T 40], .o 42 (.bin .add) [.T 37,.T 41], .o 43 (.bin .add) [.T 42,.const (.str [32,125])],
 .o 44 (.call 15) [.T 43], .o 36 .move [.T 44], .o 45 (.extract 0) [.t 36], .o 46 (.extract 1) [.T 36], .o 6 (.allocF 0 [.nilSl,.nilSl,.nilSl]) [],
 .o 7 (.allocF 1 [.int .i64 0,.int .i64 0]) [], .n (.storeF 0 3) [.t 6,.T 45], .n (.storeF 1 2) [.T 7,.T 46]] none []) (.seq (.region [
 .o 48 (.loadF 0 true 3 false) [.T 6], .o 49 (.call 16) [.T 48], .o 47 .move [.T 49], .o 50 (.extract 0) [.t 47], .o 51 (.extract 1) [.T 47],
 .o 8 (.allocF 2 [.nilSl,.nilSl,.nilSl,.nilSl,.int .i64 0]) [], .o 9 (.allocF 3 [.int .i64 0,.int .i64 0]) [], .n (.storeF 2 5) [.t 8,.T 50],
 .n (.storeF 3 2) [.t 9,.T 51]] none []) (.seq (.region [ .o 52 (.loadF 2 true 5 false) [.T 8], .o 53 (.call 10) [.T 52], .o 10 .move [.T 53]] none []) (.seq
 (.region [ .o 54 (.litM 1 4 [.int .i64 0] [0,1,2,3]) [.const (.int .i64 0),.const (.int .i64 0),.const (.int .i64 0),.const (.int .i64 0)],
 .o 11 .move [.T 54]] none []) (.seq (.seq (.region [ .o 12 .move [.const (.int .i64 0)]] none []) (.block 0 (.loop s5_l0))) (.seq (.seq (.region [
 .o 13 .move [.const (.int .i64 0)]] none []) (.block 2 (.loop s5_l1))) (.seq (.region [ .o 102 (.fieldAddr 0) [.T 9],
 .o 103 (.loadF 3 false 1 false) [.T 102], .o 104 (.bin .eql) [.T 103,.const (.int .i64 0)], .o 105 .move [.T 104], .y 106 (.call 14) [] 105,
 .o 107 .pick [.T 105,.T 106,.const (.bool false)], .o 2 .move [.T 107]] none []) .ret)))))))))))) }

/-- runrig/runriglaw19.ConsNodes -/

def s6 : SFunc := { fid := 6,mode := .pure,nparams := 3,nboxes := 1,clr := [],results := [.tmp 6 false],body :=
 (.seq (.region [ .o 3 (.boxF 0 5) [.T 0], .o 6 .move [.const (.bool false)]] none [6]) (.seq (.seq (.region [ .o 7 (.loadF 0 true 5 false) [.t 3],
 .o 8 (.call 8) [.T 7]] none []) (.cond (.T 8) [1,2,3] (.seq (.region [ .o 6 .move [.const (.bool true)]] none []) .ret) [] .skip)) (.seq (.region [
 .o 9 (.loadF 0 true 5 false) [.t 3], .o 10 .move [.t 1], .o 11 .move [.t 2], .o 12 (.call 19) [.T 9,.T 10,.T 11], .o 13 (.loadF 0 true 5 false) [.t 3],
 .o 14 .move [.t 1], .o 15 .move [.t 2], .o 16 (.call 20) [.T 13,.T 14,.T 15], .o 17 (.bin .eql) [.T 12,.T 16], .o 18 .move [.T 17],
 .y 19 (.loadF 0 true 5 false) [.t 3] 18, .y 20 .move [.t 1] 18, .y 21 (.call 21) [.T 19,.T 20] 18, .y 22 (.loadF 0 true 5 false) [.t 3] 18,
 .y 23 .move [.t 1] 18, .y 24 (.call 22) [.T 22,.T 23] 18, .y 25 (.bin .eql) [.T 21,.T 24] 18, .o 26 .pick [.t 18,.T 25,.const (.bool false)],
 .o 27 .move [.T 26], .y 28 (.loadF 0 true 5 false) [.t 3] 27, .y 29 .move [.t 2] 27, .y 30 (.call 23) [.T 28,.T 29] 27,
 .y 31 (.loadF 0 true 5 false) [.t 3] 27, .y 32 .move [.t 2] 27, .y 33 (.call 24) [.T 31,.T 32] 27, .y 34 (.bin .eql) [.T 30,.T 33] 27,
 .o 35 .pick [.t 27,.T 34,.const (.bool false)], .o 36 .move [.T 35], .y 37 (.call 14) [] 36, .o 38 .pick [.t 36,.T 37,.const (.bool false)],
 .o 6 .move [.T 38]] (some []) [1,2,3,18,19,20,21,22,23,24,27,28,29,30,31,32,33,36]) .ret))) }

/-- runrig/runriglaw19.ConsSpread -/
def s7_l0 : SCode :=
 (.seq (.seq (.region [ .o 22 .move [.t 5], .o 23 (.fieldAddr 2) [.t 1], .o 24 (.loadF 0 false 1 false) [.T 23], .o 25 .move [.t 4],
 .o 26 (.indexAddr 7) [.T 24,.T 25], .o 27 (.fieldAddr 1) [.T 26], .o 28 (.load false 1 false) [.T 27], .o 29 (.len .sl) [.T 28],
 .o 30 (.bin .lss) [.T 22,.T 29]] none []) (.cond (.T 30) [] .skip [5] (.exit 2))) (.seq (.block 3 (.seq (.seq (.region [ .o 33 (.loadF 0 true 5 false) [.t 1],
 .o 34 .move [.t 4], .o 35 .move [.t 5], .o 36 (.call 19) [.T 33,.T 34,.T 35], .o 37 .move [.t 3], .o 38 (.bin .neq) [.T 36,.T 37]] none [])
 (.cond (.T 38) [1,3,4,5] (.seq (.region [ .o 2 .move [.const (.bool false)]] none []) .ret) [] .skip)) (.region [ .o 39 .move [.T 3],
 .o 40 (.bin .add) [.T 39,.const (.int .i64 1)], .o 3 .move [.T 40]] none []))) (.region [ .o 31 .move [.T 5], .o 32 (.bin .add) [.T 31,.const (.int .i64 1)],
 .o 5 .move [.T 32]] none [])))
def s7_l1 : SCode :=
 (.seq (.seq (.region [ .o 15 .move [.t 4], .o 16 (.fieldAddr 2) [.t 1], .o 17 (.loadF 0 false 1 false) [.T 16], .o 18 (.len .sl) [.T 17],
 .o 19 (.bin .lss) [.T 15,.T 18]] none []) (.cond (.T 19) [] .skip [4] (.exit 0))) (.seq (.block 1 (.seq (.seq (.region [
 .o 5 .move [.const (.int .i64 0)]] none []) (.block 2 (.loop s7_l0))) (.seq (.region [ .o 41 (.loadF 0 true 5 false) [.t 1], .o 42 .move [.t 4],
 .o 43 (.fieldAddr 2) [.t 1], .o 44 (.loadF 0 false 1 false) [.T 43], .o 45 .move [.t 4], .o 46 (.indexAddr 7) [.T 44,.T 45], .o 47 (.fieldAddr 1) [.T 46],
 .o 48 (.load false 1 false) [.T 47], .o 49 (.len .sl) [.T 48], .o 50 (.call 19) [.T 41,.T 42,.T 49], .o 51 (.bin .neq) [.T 50,.const (.int .i64 (-1))],
 .o 52 .move [.T 51], .z 53 (.loadF 0 true 5 false) [.t 1] 52, .z 54 .move [.t 4] 52, .z 55 (.call 19) [.T 53,.T 54,.const (.int .i64 (-1))] 52,
 .z 56 (.bin .neq) [.T 55,.const (.int .i64 (-1))] 52, .o 57 .pick [.t 52,.const (.bool true),.T 56]] (some []) [52,53,54,55]) (.cond (.T 57) [1,3,4] (.seq
 (.region [ .o 2 .move [.const (.bool false)]] none []) .ret) [] .skip)))) (.region [ .o 20 .move [.T 4], .o 21 (.bin .add) [.T 20,.const (.int .i64 1)],
 .o 4 .move [.T 21]] none [])))
def s7_l2 : SCode :=
 (.seq (.seq (.region [ .o 58 .move [.t 6], .o 59 (.fieldAddr 2) [.t 1], .o 60 (.loadF 0 false 1 false) [.T 59], .o 61 (.len .sl) [.T 60],
 .o 62 (.bin .lss) [.T 58,.T 61]] none []) (.cond (.T 62) [] .skip [6] (.exit 4))) (.seq (.block 5 (.seq (.seq (.region [ .o 65 (.loadF 0 true 5 false) [.t 1],
 .o 66 .move [.t 6], .o 67 (.call 21) [.T 65,.T 66], .o 68 .move [.t 3], .o 69 (.bin .neq) [.T 67,.T 68]] none []) (.cond (.T 69) [1,3,6] (.seq (.region [
 .o 2 .move [.const (.bool false)]] none []) .ret) [] .skip)) (.region [ .o 70 .move [.T 3], .o 71 (.bin .add) [.T 70,.const (.int .i64 1)],
 .o 3 .move [.T 71]] none []))) (.region [ .o 63 .move [.T 6], .o 64 (.bin .add) [.T 63,.const (.int .i64 1)], .o 6 .move [.T 64]] none [])))
def s7_l3 : SCode :=
 (.seq (.seq (.region [ .o 72 .move [.t 7], .o 73 (.fieldAddr 1) [.t 1], .o 74 (.loadF 0 false 1 false) [.T 73], .o 75 (.len .sl) [.T 74],
 .o 76 (.bin .lss) [.T 72,.T 75]] none []) (.cond (.T 76) [] .skip [7] (.exit 6))) (.seq (.block 7 (.seq (.seq (.region [ .o 79 (.loadF 0 true 5 false) [.t 1],
 .o 80 .move [.t 7], .o 81 (.call 23) [.T 79,.T 80], .o 82 .move [.t 3], .o 83 (.bin .neq) [.T 81,.T 82]] none []) (.cond (.T 83) [1,3,7] (.seq (.region [
 .o 2 .move [.const (.bool false)]] none []) .ret) [] .skip)) (.region [ .o 84 .move [.T 3], .o 85 (.bin .add) [.T 84,.const (.int .i64 1)],
 .o 3 .move [.T 85]] none []))) (.region [ .o 77 .move [.T 7], .o 78 (.bin .add) [.T 77,.const (.int .i64 1)], .o 7 .move [.T 78]] none [])))
def s7 : SFunc := { fid := 7,mode := .pure,nparams := 1,nboxes := 1,clr := [],results := [.tmp 2 false],body :=
 (.seq (.region [ .o 1 (.boxF 0 5) [.T 0], .o 2 .move [.const (.bool false)]] none [2]) (.seq (.seq (.region [ .o 8 (.loadF 0 true 5 false) [.t 1],
 .o 9 (.call 8) [.T 8], .o 10 .move [.T 9], .z 11 (.loadF 0 true 5 false) [.t 1] 10, .z 12 (.call 18) [.T 11] 10, .z 13 (.un .not) [.T 12] 10,
 .o 14 .pick [.T 10,.const (.bool true),.T 13]] none [11,12]) (.cond (.T 14) [1] (.seq (.region [ .o 2 .move [.const (.bool true)]] none []) .ret) [] .skip))
 (.seq (.region [ .o 3 .move [.const (.int .i64 0)]] none []) (.seq (.seq (.region [ .o 4 .move [.const (.int .i64 0)]] none []) (.block 0 (.loop s7_l1)))
 (.seq (.seq (.region [ .o 6 .move [.const (.int .i64 0)]] none []) (.block 4 (.loop s7_l2))) (.seq (.seq (.region [
 .o 7 .move [.const (.int .i64 0)]] none []) (.block 6 (.loop s7_l3))) (.seq (.region [ .o 86 (.loadF 0 true 5 false) [.t 1], .o 87 (.call 12) [.T 86],
 .o 88 .move [.T 3], .o 89 (.bin .eql) [.T 87,.T 88], .o 90 .move [.T 89], .y 91 (.loadF 0 true 5 false) [.t 1] 90, .y 92 (.fieldAddr 2) [.t 1] 90,
 .y 93 (.loadF 0 false 1 false) [.T 92] 90, .y 94 (.len .sl) [.T 93] 90, .y 95 (.call 21) [.T 91,.T 94] 90,
 .y 96 (.bin .eql) [.T 95,.const (.int .i64 (-1))] 90, .o 97 .pick [.T 90,.T 96,.const (.bool false)], .o 98 .move [.T 97],
 .y 99 (.loadF 0 true 5 false) [.t 1] 98, .y 100 (.fieldAddr 1) [.T 1] 98, .y 101 (.loadF 0 false 1 false) [.T 100] 98, .y 102 (.len .sl) [.T 101] 98,
 .y 103 (.call 23) [.T 99,.T 102] 98, .y 104 (.bin .eql) [.T 103,.const (.int .i64 (-1))] 98, .o 105 .pick [.T 98,.T 104,.const (.bool false)],
 .o 106 .move [.T 105], .y 107 (.call 14) [] 106, .o 108 .pick [.T 106,.T 107,.const (.bool false)],
 .o 2 .move [.T 108]] none [1,91,92,93,94,95,99,100,101,102,103]) .ret))))))) }

/-- runrig/runriglaw19.great -/
def s8_l0 : SCode :=
 (.seq (.seq (.region [ .o 26 .move [.t 3], .o 27 (.fieldAddr 2) [.t 1], .o 28 (.loadF 0 false 1 false) [.T 27], .o 29 (.len .sl) [.T 28],
 .o 30 (.bin .lss) [.T 26,.T 29]] none []) (.cond (.T 30) [] .skip [1,3] (.exit 0))) (.seq (.block 1 (.seq (.region [ .o 33 (.fieldAddr 2) [.t 1],
 .o 34 (.loadF 0 false 1 false) [.T 33], .o 35 .move [.t 3], .o 36 (.indexAddr 7) [.T 34,.T 35], .o 37 (.fieldAddr 1) [.T 36],
 .o 38 (.load false 1 false) [.T 37], .o 39 (.len .sl) [.T 38], .o 40 (.bin .gtr) [.T 39,.const (.int .i64 300)], .o 41 .move [.T 40],
 .z 42 (.fieldAddr 2) [.t 1] 41, .z 43 (.loadF 0 false 1 false) [.T 42] 41, .z 44 .move [.t 3] 41, .z 45 (.indexAddr 7) [.T 43,.T 44] 41,
 .z 46 (.fieldAddr 6) [.T 45] 41, .z 47 (.load false 1 false) [.T 46] 41, .z 48 (.len .sl) [.T 47] 41, .z 49 (.bin .gtr) [.T 48,.const (.int .i64 300)] 41,
 .o 50 .pick [.T 41,.const (.bool true),.T 49]] none [42,43,44,45,46,47,48]) (.cond (.T 50) [1,3] (.seq (.region [ .o 2 .move [.const (.bool true)]] none [])
 .ret) [] .skip))) (.region [ .o 31 .move [.T 3], .o 32 (.bin .add) [.T 31,.const (.int .i64 1)], .o 3 .move [.T 32]] none [])))
def s8 : SFunc := { fid := 8,mode := .pure,nparams := 1,nboxes := 1,clr := [],results := [.tmp 2 false],body :=
 (.seq (.region [ .o 1 (.boxF 0 5) [.T 0], .o 2 .move [.const (.bool false)]] none [2]) (.seq (.seq (.region [ .o 4 (.fieldAddr 0) [.t 1],
 .o 5 (.loadF 0 false 1 false) [.T 4], .o 6 (.len .sl) [.T 5], .o 7 (.bin .gtr) [.T 6,.const (.int .i64 20)], .o 8 .move [.T 7], .z 9 (.fieldAddr 1) [.t 1] 8,
 .z 10 (.loadF 0 false 1 false) [.T 9] 8, .z 11 (.len .sl) [.T 10] 8, .z 12 (.bin .gtr) [.T 11,.const (.int .i64 20)] 8,
 .o 13 .pick [.T 8,.const (.bool true),.T 12], .o 14 .move [.T 13], .z 15 (.fieldAddr 2) [.t 1] 14, .z 16 (.loadF 0 false 1 false) [.T 15] 14,
 .z 17 (.len .sl) [.T 16] 14, .z 18 (.bin .gtr) [.T 17,.const (.int .i64 20)] 14, .o 19 .pick [.T 14,.const (.bool true),.T 18], .o 20 .move [.T 19],
 .z 21 (.fieldAddr 3) [.t 1] 20, .z 22 (.loadF 0 false 1 false) [.T 21] 20, .z 23 (.len .sl) [.T 22] 20, .z 24 (.bin .gtr) [.T 23,.const (.int .i64 80)] 20,
 .o 25 .pick [.T 20,.const (.bool true),.T 24]] none [9,10,11,15,16,17,21,22,23]) (.cond (.T 25) [1] (.seq (.region [
 .o 2 .move [.const (.bool true)]] none []) .ret) [] .skip)) (.seq (.seq (.region [ .o 3 .move [.const (.int .i64 0)]] none []) (.block 0 (.loop s8_l0))) (.seq
 (.region [ .o 2 .move [.const (.bool false)]] none []) .ret)))) }

/-- runrig/runriglaw19.same -/
def s9_l0 : SCode :=
 (.seq (.seq (.region [ .o 11 .move [.t 5], .o 12 .move [.t 0], .o 13 (.len .sl) [.T 12], .o 14 (.bin .lss) [.T 11,.T 13]] none []) (.cond (.T 14) []
 .skip [0,1,5] (.exit 0))) (.seq (.block 1 (.seq (.region [ .o 17 .move [.t 0], .o 18 .move [.t 5], .o 19 (.indexAddr 4) [.T 17,.T 18],
 .o 20 (.load true 4 false) [.T 19], .o 21 .move [.t 1], .o 22 .move [.t 5], .o 23 (.indexAddr 4) [.T 21,.T 22], .o 24 (.load true 4 false) [.T 23],
 .o 25 (.eqv (.flat [.int,.int,.int,.int]) true) [.T 20,.T 24]] (some []) []) (.cond (.T 25) [0,1,5] (.seq (.region [
 .o 4 .move [.const (.bool false)]] none []) .ret) [] .skip))) (.region [ .o 15 .move [.T 5], .o 16 (.bin .add) [.T 15,.const (.int .i64 1)],
 .o 5 .move [.T 16]] none [])))
def s9 : SFunc := { fid := 9,mode := .pure,nparams := 2,nboxes := 0,clr := [],results := [.tmp 4 false],body :=
 (.seq (.region [ .o 4 .move [.const (.bool false)]] none [4]) (.seq (.seq (.region [ .o 6 .move [.t 0], .o 7 (.len .sl) [.T 6], .o 8 .move [.t 1],
 .o 9 (.len .sl) [.T 8], .o 10 (.bin .neq) [.T 7,.T 9]] none []) (.cond (.T 10) [0,1] (.seq (.region [ .o 4 .move [.const (.bool false)]] none []) .ret) []
 .skip)) (.seq (.seq (.region [ .o 5 .move [.const (.int .i64 0)]] none []) (.block 0 (.loop s9_l0))) (.seq (.region [
 .o 4 .move [.const (.bool true)]] none []) .ret)))) }

/-- runrig/cons.Make -/
def s10_l0 : SCode :=
 (.seq (.region [ .o 39 (.bin .lss) [.t 38,.t 37]] none []) (.seq (.cond (.T 39) [] .skip [36,37,38] (.exit 2)) (.seq (.block 3 (.seq (.region [
 .o 40 (.indexAddr 6) [.t 36,.t 38], .o 41 (.load true 6 false) [.T 40],
 .o 7 (.allocF 2 [.int .i64 0,.int .i64 0,.int .i64 0,.int .i64 0,.int .i64 0,.nilSl]) [], .n (.storeF 2 6) [.t 7,.T 41]] none []) (.region [
 .o 42 .move [.t 3], .o 43 (.loadF 2 true 6 false) [.T 7], .o 44 (.call 28) [.T 42,.T 43]] none [44]))) (.region [
 .o 45 (.bin .add) [.T 38,.const (.int .i64 1)], .o 38 .move [.T 45]] none []))))
def s10_l1 : SCode :=
 (.seq (.region [ .o 23 (.bin .lss) [.t 22,.t 21]] none []) (.seq (.cond (.T 23) [] .skip [20,21,22] (.exit 0)) (.seq (.block 1 (.seq (.region [
 .o 24 .move [.t 22], .o 25 (.indexAddr 7) [.t 20,.t 22], .o 26 (.load true 7 false) [.T 25],
 .o 5 (.allocF 1 [.int .i64 0,.nilSl,.bool false,.int .i64 0,.int .i64 0,.int .i64 0,.nilSl]) [], .o 4 .move [.T 24], .n (.storeF 1 7) [.t 5,.T 26]] none [])
 (.seq (.region [ .o 27 .move [.t 3], .o 28 .move [.t 3], .o 29 .move [.T 4], .o 30 (.loadF 1 true 7 false) [.t 5], .o 31 .nilCheck [.T 27],
 .o 32 (.fieldAddr 8) [.T 31], .n (.store 1) [.T 32,.T 29], .o 33 .nilCheck [.T 28], .o 34 (.fieldAddr 0) [.T 33], .n (.store 7) [.T 34,.T 30]] (some []) [])
 (.seq (.region [ .o 35 (.fieldAddr 6) [.T 5], .o 36 (.loadF 1 false 1 false) [.T 35], .o 37 (.len .sl) [.t 36], .o 38 .move [.const (.int .i64 0)]] none [])
 (.block 2 (.loop s10_l0)))))) (.region [ .o 46 (.bin .add) [.T 22,.const (.int .i64 1)], .o 22 .move [.T 46]] none []))))
def s10 : SFunc := { fid := 10,mode := .pure,nparams := 1,nboxes := 3,clr := [],results := [.tmp 2 true],body :=
 (.seq (.region [ .o 1 (.boxF 0 5) [.T 0], .o 2 .move [.const .nilSl]] none [2]) (.seq (.seq (.region [ .o 8 (.loadF 0 true 5 false) [.t 1],
 .o 9 (.call 25) [.T 8], .o 10 (.un .not) [.T 9]] none []) (.cond (.T 10) [1] (.seq (.region [ .o 2 .move [.const .nilSl]] none []) .ret) [] .skip)) (.seq
 (.region [ .o 11 (.loadF 0 true 5 false) [.t 1], .o 12 (.call 26) [.T 11], .o 13 (.loadF 0 true 5 false) [.t 1], .o 14 (.call 27) [.T 13],
 .o 15 (.fieldAddr 2) [.t 1], .o 16 (.loadF 0 false 1 false) [.T 15],
 .o 17 (.build [.int .i64 0,.nilSl,.bool false,.int .i64 0,.int .i64 0,.int .i64 0,.nilSl,.nilSl,.int .i64 0,.int .i64 0,.nilSl,.nilSl] [(7,1),(9,1),(10,1)]) [.T 12,.T 14,.T 16],
 .o 18 (.box 12) [.T 17], .o 3 .move [.T 18]] (some []) []) (.seq (.seq (.region [ .o 19 (.fieldAddr 2) [.T 1], .o 20 (.loadF 0 false 1 false) [.T 19],
 .o 21 (.len .sl) [.t 20], .o 22 .move [.const (.int .i64 0)]] none []) (.block 0 (.loop s10_l1))) (.seq (.region [ .o 47 .move [.T 3],
 .o 48 .nilCheck [.T 47], .o 49 (.fieldAddr 11) [.T 48], .o 50 (.load false 1 false) [.T 49], .o 2 .move [.T 50]] none []) .ret))))) }

/-- runrig/runrigref19.Make -/

def s11 : SFunc := { fid := 11,mode := .pure,nparams := 1,nboxes := 1,clr := [],results := [.tmp 2 true],body :=
 (.seq (.region [ .o 1 (.boxF 0 5) [.T 0], .o 2 .move [.const .nilSl]] none [2]) (.seq (.seq (.region [ .o 3 (.loadF 0 true 5 false) [.t 1],
 .o 4 (.call 18) [.T 3], .o 5 (.un .not) [.T 4]] none []) (.cond (.T 5) [1] (.seq (.region [ .o 2 .move [.const .nilSl]] none []) .ret) [] .skip)) (.seq
 (.region [ .o 6 (.loadF 0 true 5 false) [.T 1], .o 7 (.call 29) [.T 6], .o 2 .move [.T 7]] none []) .ret))) }

/-- runrig/cons.Count -/

def s12 : SFunc := { fid := 12,mode := .pure,nparams := 1,nboxes := 1,clr := [],results := [.tmp 2 false],body :=
 (.seq (.region [ .o 1 (.boxF 0 5) [.T 0], .o 2 .move [.const (.int .i64 0)]] none [2]) (.seq (.seq (.region [ .o 3 (.loadF 0 true 5 false) [.t 1],
 .o 4 (.call 25) [.T 3], .o 5 (.un .not) [.T 4]] none []) (.cond (.T 5) [1] (.seq (.region [ .o 2 .move [.const (.int .i64 0)]] none []) .ret) [] .skip)) (.seq
 (.region [ .o 6 (.loadF 0 true 5 false) [.t 1], .o 7 (.call 27) [.T 6], .o 8 (.fieldAddr 2) [.t 1], .o 9 (.loadF 0 false 1 false) [.T 8],
 .o 10 (.len .sl) [.T 9], .o 11 (.bin .add) [.T 7,.T 10], .o 12 (.fieldAddr 1) [.t 1], .o 13 (.loadF 0 false 1 false) [.T 12], .o 14 (.len .sl) [.T 13],
 .o 15 (.bin .add) [.T 11,.T 14], .o 2 .move [.T 15]] (some []) [1]) .ret))) }

/-- runrig/runrigref19.Count -/

def s13 : SFunc := { fid := 13,mode := .pure,nparams := 1,nboxes := 1,clr := [],results := [.tmp 2 false],body :=
 (.seq (.region [ .o 1 (.boxF 0 5) [.T 0], .o 2 .move [.const (.int .i64 0)]] none [2]) (.seq (.seq (.region [ .o 3 (.loadF 0 true 5 false) [.t 1],
 .o 4 (.call 18) [.T 3], .o 5 (.un .not) [.T 4]] none []) (.cond (.T 5) [1] (.seq (.region [ .o 2 .move [.const (.int .i64 0)]] none []) .ret) [] .skip)) (.seq
 (.region [ .o 6 (.loadF 0 true 5 false) [.t 1], .o 7 (.fieldAddr 2) [.t 1], .o 8 (.loadF 0 false 1 false) [.T 7], .o 9 (.len .sl) [.T 8],
 .o 10 (.call 30) [.T 6,.T 9], .o 11 (.fieldAddr 2) [.t 1], .o 12 (.loadF 0 false 1 false) [.T 11], .o 13 (.len .sl) [.T 12], .o 14 (.bin .add) [.T 10,.T 13],
 .o 15 (.fieldAddr 1) [.t 1], .o 16 (.loadF 0 false 1 false) [.T 15], .o 17 (.len .sl) [.T 16], .o 18 (.bin .add) [.T 14,.T 17],
 .o 2 .move [.T 18]] (some []) [1]) .ret))) }

/-- runrig/runriglaw19.known -/

def s14 : SFunc := { fid := 14,mode := .pure,nparams := 0,nboxes := 4,clr := [],results := [.tmp 0 false],body :=
 (.seq (.region [ .o 0 .move [.const (.bool false)]] none [0]) (.seq (.region [
 .o 7 (.call 15) [.const (.str [114,101,99,111,114,100,32,82,32,123,32,125,32,102,117,110,99,32,109,97,105,110,40,41,32,123,32,108,101,116,32,97,58,32,82,32,61,32,110,101,119,32,82,59,32,125])],
 .o 6 .move [.T 7], .o 8 (.extract 0) [.t 6], .o 9 (.extract 1) [.T 6], .o 1 (.allocF 0 [.nilSl,.nilSl,.nilSl]) [],
 .o 2 (.allocF 1 [.int .i64 0,.int .i64 0]) [], .n (.storeF 0 3) [.t 1,.T 8], .n (.storeF 1 2) [.T 2,.T 9]] none []) (.seq (.region [
 .o 11 (.loadF 0 true 3 false) [.T 1], .o 12 (.call 16) [.T 11], .o 10 .move [.T 12], .o 13 (.extract 0) [.t 10], .o 14 (.extract 1) [.T 10],
 .o 3 (.allocF 2 [.nilSl,.nilSl,.nilSl,.nilSl,.int .i64 0]) [], .o 4 (.allocF 3 [.int .i64 0,.int .i64 0]) [], .n (.storeF 2 5) [.t 3,.T 13],
 .n (.storeF 3 2) [.T 4,.T 14]] none []) (.seq (.region [ .o 15 (.loadF 2 true 5 false) [.t 3], .o 16 (.call 10) [.T 15], .o 5 .move [.T 16]] none []) (.seq
 (.region [ .o 17 .move [.t 5], .o 18 (.len .sl) [.T 17], .o 19 (.bin .eql) [.T 18,.const (.int .i64 2)], .o 20 .move [.T 19], .y 21 .move [.t 5] 20,
 .y 22 (.indexAddr 4) [.T 21,.const (.int .i64 0)] 20, .y 23 (.load true 4 false) [.T 22] 20,
 .y 24 (.build [.int .i64 0,.int .i64 0,.int .i64 0,.int .i64 0] [(0,1),(1,1)]) [.const (.int .i64 1),.const (.int .i64 1)] 20,
 .y 25 (.eqv (.flat [.int,.int,.int,.int]) false) [.T 23,.T 24] 20, .o 26 .pick [.T 20,.T 25,.const (.bool false)], .o 27 .move [.T 26], .y 28 .move [.T 5] 27,
 .y 29 (.indexAddr 4) [.T 28,.const (.int .i64 1)] 27, .y 30 (.load true 4 false) [.T 29] 27,
 .y 31 (.build [.int .i64 0,.int .i64 0,.int .i64 0,.int .i64 0] [(0,1),(1,1),(2,1)]) [.const (.int .i64 2),.const (.int .i64 0),.const (.int .i64 1)] 27,
 .y 32 (.eqv (.flat [.int,.int,.int,.int]) false) [.T 30,.T 31] 27, .o 33 .pick [.T 27,.T 32,.const (.bool false)], .o 34 .move [.T 33],
 .y 35 (.loadF 2 true 5 false) [.t 3] 34, .y 36 (.call 12) [.T 35] 34, .y 37 (.bin .eql) [.T 36,.const (.int .i64 3)] 34,
 .o 38 .pick [.T 34,.T 37,.const (.bool false)], .o 39 .move [.T 38], .y 40 (.loadF 2 true 5 false) [.T 3] 39,
 .y 41 (.call 21) [.T 40,.const (.int .i64 0)] 39, .y 42 (.bin .eql) [.T 41,.const (.int .i64 2)] 39, .o 43 .pick [.T 39,.T 42,.const (.bool false)],
 .o 0 .move [.T 43]] none [3,5,21,22,23,24,28,29,30,31,35,36,40,41]) .ret))))) }

/-- runrig/runrigref3.Prog -/
def s15_l0 : SCode :=
 (.seq (.seq (.region [ .o 21 .move [.t 6], .o 22 (.call 32) [.T 21], .o 23 .move [.T 22], .y 24 .move [.t 6] 23, .y 25 (.call 33) [.T 24] 23,
 .y 26 (.field 0 1 false) [.T 25] 23, .y 27 (.bin .neq) [.T 26,.const (.int .i64 0)] 23, .o 28 .pick [.T 23,.T 27,.const (.bool false)]] none [24,25,26])
 (.cond (.T 28) [] .skip [] (.exit 0))) (.block 1 (.block 2 (.seq (.seq (.region [ .o 32 .move [.t 6],
 .o 33 (.call 34) [.T 32,.const (.str [114,101,99,111,114,100])], .o 34 .move [.T 33], .y 35 (.fieldAddr 0) [.t 7] 34,
 .y 36 (.loadF 3 false 1 false) [.T 35] 34, .y 37 (.len .sl) [.T 36] 34, .y 38 (.bin .eql) [.T 37,.const (.int .i64 12)] 34,
 .o 39 .pick [.T 34,.T 38,.const (.bool false)], .o 31 .move [.T 39]] none [35,36,37]) (.cond (.t 31) [] .skip [31] (.seq (.region [ .o 40 .move [.t 6],
 .o 41 (.call 34) [.T 40,.const (.str [103,108,111,98,97,108])], .o 42 .move [.T 41], .y 43 (.fieldAddr 1) [.t 7] 42,
 .y 44 (.loadF 3 false 1 false) [.T 43] 42, .y 45 (.len .sl) [.T 44] 42, .y 46 (.bin .eql) [.T 45,.const (.int .i64 8)] 42,
 .o 47 .pick [.T 42,.T 46,.const (.bool false)], .o 31 .move [.T 47]] none [43,44,45]) (.cond (.t 31) [] .skip [31] (.region [ .o 48 .move [.t 6],
 .o 49 (.call 34) [.T 48,.const (.str [102,117,110,99])], .o 50 .move [.T 49], .y 51 (.fieldAddr 2) [.t 7] 50, .y 52 (.loadF 3 false 1 false) [.T 51] 50,
 .y 53 (.len .sl) [.T 52] 50, .y 54 (.bin .eql) [.T 53,.const (.int .i64 16)] 50, .o 55 .pick [.T 50,.T 54,.const (.bool false)],
 .o 31 .move [.T 55]] none [51,52,53]))))) (.cond (.T 31) [] (.region [ .o 56 .move [.t 6], .o 57 (.call 35) [.T 56,.const (.int .i64 4)]] none [57]) [] (.seq
 (.region [ .o 59 .move [.t 6], .o 60 (.call 34) [.T 59,.const (.str [114,101,99,111,114,100])], .o 58 .move [.T 60]] none []) (.cond (.T 58) [] (.seq
 (.region [ .o 61 .move [.t 6], .o 62 .nilCheck [.t 61], .o 63 (.fieldAddr 1) [.T 62], .o 64 (.load false 1 false) [.T 63],
 .o 65 (.bin .add) [.T 64,.const (.int .i64 1)], .o 66 .nilCheck [.T 61], .o 67 (.fieldAddr 1) [.T 66], .n (.store 1) [.T 67,.T 65]] none []) (.region [
 .o 68 (.fieldAddr 0) [.t 7], .o 69 (.loadF 3 false 1 true) [.T 68], .o 70 .move [.t 6], .o 71 (.call 36) [.T 70],
 .o 72 (.lit 3 1 [.str [],.nilSl,.int .i64 0] [0]) [.T 71], .o 73 (.append 3 48) [.T 69,.T 72], .o 74 (.fieldAddr 0) [.t 7],
 .n (.storeF 3 1) [.T 74,.T 73]] (some []) [])) [] (.seq (.region [ .o 76 .move [.t 6], .o 77 (.call 34) [.T 76,.const (.str [103,108,111,98,97,108])],
 .o 75 .move [.T 77]] none []) (.cond (.T 75) [] (.seq (.region [ .o 78 .move [.t 6], .o 79 .nilCheck [.t 78], .o 80 (.fieldAddr 1) [.T 79],
 .o 81 (.load false 1 false) [.T 80], .o 82 (.bin .add) [.T 81,.const (.int .i64 1)], .o 83 .nilCheck [.T 78], .o 84 (.fieldAddr 1) [.T 83],
 .n (.store 1) [.T 84,.T 82]] none []) (.seq (.region [ .o 85 (.fieldAddr 1) [.t 7], .o 86 (.loadF 3 false 1 true) [.T 85], .o 87 .move [.t 6],
 .o 88 (.call 37) [.T 87], .o 89 (.lit 4 1 [.str [],.str [],.int .i64 0,.int .i64 0] [0]) [.T 88], .o 90 (.append 4 48) [.T 86,.T 89],
 .o 91 (.fieldAddr 1) [.t 7], .n (.storeF 3 1) [.T 91,.T 90]] (some []) []) (.region [ .o 92 .move [.t 6],
 .o 93 (.call 38) [.T 92,.const (.str [59])]] none [93]))) [] (.seq (.region [ .o 95 .move [.t 6], .o 96 (.call 34) [.T 95,.const (.str [102,117,110,99])],
 .o 94 .move [.T 96]] none []) (.cond (.T 94) [] (.seq (.region [ .o 97 .move [.t 6], .o 98 .nilCheck [.t 97], .o 99 (.fieldAddr 1) [.T 98],
 .o 100 (.load false 1 false) [.T 99], .o 101 (.bin .add) [.T 100,.const (.int .i64 1)], .o 102 .nilCheck [.T 97], .o 103 (.fieldAddr 1) [.T 102],
 .n (.store 1) [.T 103,.T 101]] none []) (.region [ .o 104 (.fieldAddr 2) [.t 7], .o 105 (.loadF 3 false 1 true) [.T 104], .o 106 .move [.t 6],
 .o 107 (.call 39) [.T 106], .o 108 (.lit 7 1 [.str [],.nilSl,.bool false,.str [],.int .i64 0,.nilSl,.int .i64 0] [0]) [.T 107],
 .o 109 (.append 7 104) [.T 105,.T 108], .o 110 (.fieldAddr 2) [.t 7], .n (.storeF 3 1) [.T 110,.T 109]] (some []) [])) [] (.region [ .o 29 .move [.t 6],
 .o 30 (.call 35) [.T 29,.const (.int .i64 2)]] none [30]))))))))))))
def s15 : SFunc := { fid := 15,mode := .pure,nparams := 1,nboxes := 4,clr := [],results := [.box 2 0 3 true,.box 3 1 2 true],body :=
 (.seq (.region [ .o 2 (.allocF 0 [.nilSl,.nilSl,.nilSl]) [], .o 3 (.allocF 1 [.int .i64 0,.int .i64 0]) []] none []) (.seq (.region [ .o 9 .move [.T 0],
 .o 10 (.call 31) [.T 9], .o 8 .move [.T 10], .o 11 (.extract 0) [.t 8], .o 12 (.extract 1) [.T 8], .o 5 (.allocF 2 [.int .i64 0,.int .i64 0]) [],
 .o 4 .move [.T 11], .n (.storeF 2 2) [.t 5,.T 12]] none []) (.seq (.seq (.region [ .o 13 (.fieldAddr 0) [.t 5], .o 14 (.loadF 2 false 1 false) [.T 13],
 .o 15 (.bin .neq) [.T 14,.const (.int .i64 0)]] none []) (.cond (.T 15) [4] (.seq (.region [ .o 16 (.build [.nilSl,.nilSl,.nilSl] []) [],
 .o 17 (.loadF 2 true 2 false) [.T 5], .n (.storeF 0 3) [.t 2,.T 16], .n (.storeF 1 2) [.t 3,.T 17]] (some []) []) .ret) [5] .skip)) (.seq (.region [
 .o 18 .move [.T 4], .o 19 (.build [.nilSl,.int .i64 0,.int .i64 0,.int .i64 0,.int .i64 0] [(0,1)]) [.T 18], .o 20 (.box 5) [.T 19],
 .o 6 .move [.T 20]] none []) (.seq (.region [ .o 7 (.allocF 3 [.nilSl,.nilSl,.nilSl]) []] none []) (.seq (.block 0 (.loop s15_l0)) (.seq (.seq (.region [
 .o 111 .move [.t 6], .o 112 (.call 32) [.T 111], .o 113 (.un .not) [.T 112]] none []) (.cond (.T 113) [7] (.seq (.region [
 .o 114 (.build [.nilSl,.nilSl,.nilSl] []) [], .o 115 .move [.T 6], .o 116 .nilCheck [.T 115], .o 117 (.fieldAddr 3) [.T 116],
 .o 118 (.load true 2 false) [.T 117], .n (.storeF 0 3) [.t 2,.T 114], .n (.storeF 1 2) [.t 3,.T 118]] (some []) []) .ret) [6] .skip)) (.seq (.region [
 .o 119 (.loadF 3 true 3 false) [.T 7], .o 120 (.build [.int .i64 0,.int .i64 0] []) [], .n (.storeF 0 3) [.t 2,.T 119],
 .n (.storeF 1 2) [.t 3,.T 120]] none []) .ret)))))))) }

/-- runrig/runrigref13.Make -/
def s16_l0 : SCode :=
 (.seq (.seq (.region [ .o 42 .move [.t 7], .o 43 (.fieldAddr 0) [.t 4], .o 44 (.fieldAddr 1) [.T 43], .o 45 (.loadF 3 false 1 false) [.T 44],
 .o 46 (.len .sl) [.T 45], .o 47 (.bin .lss) [.T 42,.T 46]] none []) (.cond (.T 47) [] .skip [7] (.exit 0))) (.seq (.block 1 (.region [
 .o 50 (.fieldAddr 1) [.t 6], .o 51 (.loadF 5 false 1 true) [.T 50], .o 52 (.fieldAddr 0) [.t 4], .o 53 (.fieldAddr 1) [.T 52],
 .o 54 (.loadF 3 false 1 false) [.T 53], .o 55 .move [.t 7], .o 56 (.indexAddr 4) [.T 54,.T 55], .o 57 (.fieldAddr 1) [.T 56],
 .o 58 (.load true 3 false) [.T 57], .o 59 (.lit 3 1 [.int .i64 0,.int .i64 0,.int .i64 0] [0]) [.T 58], .o 60 (.append 3 24) [.T 51,.T 59],
 .o 61 (.fieldAddr 1) [.t 6], .n (.storeF 5 1) [.T 61,.T 60]] (some []) [])) (.region [ .o 48 .move [.T 7], .o 49 (.bin .add) [.T 48,.const (.int .i64 1)],
 .o 7 .move [.T 49]] none [])))
def s16_l1 : SCode :=
 (.seq (.seq (.region [ .o 92 .move [.t 13], .o 93 (.fieldAddr 0) [.t 10], .o 94 (.loadF 6 false 1 false) [.T 93], .o 95 (.len .sl) [.T 94],
 .o 96 (.bin .lss) [.T 92,.T 95]] none []) (.cond (.T 96) [] .skip [13] (.exit 4))) (.seq (.block 5 (.region [ .o 99 .move [.t 12],
 .o 100 (.fieldAddr 0) [.t 10], .o 101 (.loadF 6 false 1 false) [.T 100], .o 102 .move [.t 13], .o 103 (.indexAddr 4) [.T 101,.T 102],
 .o 104 (.fieldAddr 1) [.T 103], .o 105 (.load true 3 false) [.T 104], .o 106 (.call 43) [.T 99,.T 105]] none [106])) (.region [ .o 97 .move [.T 13],
 .o 98 (.bin .add) [.T 97,.const (.int .i64 1)], .o 13 .move [.T 98]] none [])))
def s16_l2 : SCode :=
 (.seq (.seq (.region [ .o 62 .move [.t 9], .o 63 (.fieldAddr 4) [.t 4], .o 64 (.loadF 3 false 1 false) [.T 63], .o 65 (.len .sl) [.T 64],
 .o 66 (.bin .lss) [.T 62,.T 65]] none []) (.cond (.T 66) [] .skip [4,8,9] (.exit 2))) (.seq (.block 3 (.seq (.region [ .o 69 (.fieldAddr 4) [.t 4],
 .o 70 (.loadF 3 false 1 false) [.T 69], .o 71 .move [.t 9], .o 72 (.indexAddr 3) [.T 70,.T 71], .o 73 (.load true 3 false) [.T 72],
 .o 10 (.allocF 6 [.nilSl,.nilSl,.int .i64 0]) [], .n (.storeF 6 3) [.t 10,.T 73]] none []) (.seq (.region [ .o 74 (.fieldAddr 0) [.t 4],
 .o 75 (.fieldAddr 2) [.T 74], .o 76 (.loadF 3 false 1 false) [.T 75], .o 77 .move [.t 9], .o 78 (.indexAddr 6) [.T 76,.T 77],
 .o 79 (.load true 6 false) [.T 78], .o 11 (.allocF 7 [.str [],.nilSl,.bool false,.int .i64 0,.int .i64 0,.int .i64 0]) [],
 .n (.storeF 7 6) [.t 11,.T 79]] none []) (.seq (.region [ .o 80 (.loadF 5 true 5 true) [.t 6], .o 81 .move [.t 9], .o 82 (.fieldAddr 1) [.t 11],
 .o 83 (.loadF 7 false 1 false) [.T 82], .o 84 (.len .sl) [.T 83], .o 85 (.fieldAddr 2) [.t 11], .o 86 (.loadF 7 false 1 false) [.T 85],
 .o 87 (.fieldAddr 3) [.T 11], .o 88 (.loadF 7 true 3 false) [.T 87],
 .o 89 (.build [.int .i64 0,.nilSl,.bool false,.int .i64 0,.int .i64 0,.int .i64 0,.nilSl] [(0,1),(2,1),(3,3)]) [.T 84,.T 86,.T 88],
 .o 90 (.build [.nilSl,.nilSl,.nilSl,.nilSl,.int .i64 0,.int .i64 0,.int .i64 0,.nilSl,.bool false,.int .i64 0,.int .i64 0,.int .i64 0,.nilSl] [(0,5),(5,1),(6,7)]) [.T 80,.T 81,.T 89],
 .o 91 (.box 13) [.T 90], .o 12 .move [.T 91]] none []) (.seq (.seq (.region [ .o 13 .move [.const (.int .i64 0)]] none []) (.block 4 (.loop s16_l1))) (.seq
 (.region [ .o 107 .move [.t 12], .o 108 (.fieldAddr 1) [.t 10], .o 109 (.loadF 6 false 1 false) [.T 108], .o 110 (.call 44) [.T 107,.T 109]] none [110]) (.seq
 (.region [ .o 111 .move [.t 12], .o 112 (.call 45) [.T 111]] none [112]) (.seq (.region [ .o 113 .move [.t 12], .o 114 .nilCheck [.T 113],
 .o 115 (.fieldAddr 0) [.T 114], .o 116 (.load true 5 true) [.T 115], .n (.storeF 5 5) [.t 6,.T 116]] none []) (.seq (.region [ .o 117 (.fieldAddr 2) [.t 6],
 .o 118 (.loadF 5 false 1 true) [.T 117], .o 119 .move [.t 12], .o 120 .nilCheck [.T 119], .o 121 (.fieldAddr 6) [.T 120],
 .o 122 (.load true 7 false) [.T 121], .o 123 (.lit 7 1 [.int .i64 0,.nilSl,.bool false,.int .i64 0,.int .i64 0,.int .i64 0,.nilSl] [0]) [.T 122],
 .o 124 (.append 7 88) [.T 118,.T 123], .o 125 (.fieldAddr 2) [.t 6], .n (.storeF 5 1) [.T 125,.T 124]] (some []) []) (.seq (.region [ .o 126 .move [.T 8],
 .o 127 .move [.t 12], .o 128 .nilCheck [.T 127], .o 129 (.fieldAddr 6) [.T 128], .o 130 (.fieldAddr 6) [.T 129], .o 131 (.load false 1 false) [.T 130],
 .o 132 (.len .sl) [.T 131], .o 133 (.bin .add) [.T 126,.T 132], .o 8 .move [.T 133]] none []) (.seq (.region [ .o 134 .move [.t 8],
 .o 135 (.bin .gtr) [.T 134,.const (.int .i64 2500)], .o 136 .move [.T 135], .z 137 (.fieldAddr 3) [.t 6] 136, .z 138 (.loadF 5 false 1 false) [.T 137] 136,
 .z 139 (.len .sl) [.T 138] 136, .z 140 (.bin .gtr) [.T 139,.const (.int .i64 60)] 136, .o 141 .pick [.T 136,.const (.bool true),.T 140],
 .o 142 .move [.T 141], .z 143 .move [.T 12] 142, .z 144 .nilCheck [.T 143] 142, .z 145 (.fieldAddr 6) [.T 144] 142, .z 146 (.fieldAddr 1) [.T 145] 142,
 .z 147 (.load false 1 false) [.T 146] 142, .z 148 (.len .sl) [.T 147] 142, .z 149 (.bin .gtr) [.T 148,.const (.int .i64 4000)] 142,
 .o 150 .pick [.T 142,.const (.bool true),.T 149]] none [12,137,138,139,143,144,145,146,147,148]) (.cond (.T 150) [4,6,8,9] (.seq (.region [
 .o 151 (.build [.nilSl,.nilSl,.nilSl,.nilSl,.int .i64 0] []) [], .o 152 (.fieldAddr 2) [.T 10], .o 153 (.loadF 6 false 1 false) [.T 152],
 .o 154 (.build [.int .i64 0,.int .i64 0] [(0,1),(1,1)]) [.const (.int .i64 4),.T 153], .n (.storeF 1 5) [.t 2,.T 151],
 .n (.storeF 2 2) [.t 3,.T 154]] (some []) []) .ret) [10] .skip)))))))))))) (.region [ .o 67 .move [.T 9], .o 68 (.bin .add) [.T 67,.const (.int .i64 1)],
 .o 9 .move [.T 68]] none [])))
def s16 : SFunc := { fid := 16,mode := .pure,nparams := 1,nboxes := 8,clr := [],results := [.box 2 1 5 true,.box 3 2 2 true],body :=
 (.seq (.region [ .o 1 (.boxF 0 3) [.T 0], .o 2 (.allocF 1 [.nilSl,.nilSl,.nilSl,.nilSl,.int .i64 0]) [],
 .o 3 (.allocF 2 [.int .i64 0,.int .i64 0]) []] none []) (.seq (.region [ .o 15 (.loadF 0 true 3 false) [.t 1], .o 16 (.call 40) [.T 15], .o 14 .move [.T 16],
 .o 17 (.extract 0) [.t 14], .o 18 (.extract 1) [.T 14], .o 4 (.allocF 3 [.nilSl,.nilSl,.nilSl,.int .i64 0,.nilSl]) [],
 .o 5 (.allocF 4 [.int .i64 0,.int .i64 0]) [], .n (.storeF 3 5) [.t 4,.T 17], .n (.storeF 4 2) [.t 5,.T 18]] none []) (.seq (.seq (.region [
 .o 19 (.fieldAddr 0) [.t 5], .o 20 (.loadF 4 false 1 false) [.T 19], .o 21 (.bin .neq) [.T 20,.const (.int .i64 0)]] none []) (.cond (.T 21) [1,4] (.seq
 (.region [ .o 22 (.build [.nilSl,.nilSl,.nilSl,.nilSl,.int .i64 0] []) [], .o 23 (.loadF 4 true 2 false) [.T 5], .n (.storeF 1 5) [.t 2,.T 22],
 .n (.storeF 2 2) [.t 3,.T 23]] (some []) []) .ret) [] .skip)) (.seq (.region [ .o 24 (.loadF 0 true 3 false) [.t 1], .o 25 (.call 41) [.T 24],
 .n (.storeF 4 2) [.t 5,.T 25]] none []) (.seq (.seq (.region [ .o 26 (.fieldAddr 0) [.t 5], .o 27 (.loadF 4 false 1 false) [.T 26],
 .o 28 (.bin .neq) [.T 27,.const (.int .i64 0)]] none []) (.cond (.T 28) [1,4] (.seq (.region [ .o 29 (.build [.nilSl,.nilSl,.nilSl,.nilSl,.int .i64 0] []) [],
 .o 30 (.loadF 4 true 2 false) [.T 5], .n (.storeF 1 5) [.t 2,.T 29], .n (.storeF 2 2) [.t 3,.T 30]] (some []) []) .ret) [5] .skip)) (.seq (.seq (.region [
 .o 31 (.loadF 0 true 3 false) [.T 1], .o 32 (.call 42) [.T 31]] none []) (.cond (.T 32) [4] (.seq (.region [
 .o 33 (.build [.nilSl,.nilSl,.nilSl,.nilSl,.int .i64 0] []) [], .o 34 (.build [.int .i64 0,.int .i64 0] [(0,1)]) [.const (.int .i64 4)],
 .n (.storeF 1 5) [.t 2,.T 33], .n (.storeF 2 2) [.t 3,.T 34]] none []) .ret) [] .skip)) (.seq (.region [ .o 35 (.fieldAddr 0) [.t 4],
 .o 36 (.fieldAddr 0) [.T 35], .o 37 (.loadF 3 false 1 false) [.T 36], .o 38 (.fieldAddr 0) [.t 4], .o 39 (.fieldAddr 3) [.T 38],
 .o 40 (.loadF 3 false 1 false) [.T 39], .o 41 (.build [.nilSl,.nilSl,.nilSl,.nilSl,.int .i64 0] [(0,1),(4,1)]) [.T 37,.T 40],
 .o 6 (.allocF 5 [.nilSl,.nilSl,.nilSl,.nilSl,.int .i64 0]) [], .n (.storeF 5 5) [.t 6,.T 41]] none []) (.seq (.seq (.region [
 .o 7 .move [.const (.int .i64 0)]] none []) (.block 0 (.loop s16_l0))) (.seq (.region [ .o 8 .move [.const (.int .i64 0)]] none []) (.seq (.seq (.region [
 .o 9 .move [.const (.int .i64 0)]] none []) (.block 2 (.loop s16_l2))) (.seq (.region [ .o 155 (.loadF 5 true 5 false) [.T 6],
 .o 156 (.build [.int .i64 0,.int .i64 0] []) [], .n (.storeF 1 5) [.t 2,.T 155], .n (.storeF 2 2) [.t 3,.T 156]] none []) .ret))))))))))) }

/-- runrig/runrigref7.Ref -/

def s17 : SFunc := { fid := 17,mode := .pure,nparams := 1,nboxes := 1,clr := [],results := [.tmp 2 false],body :=
 (.seq (.region [ .o 1 (.boxF 0 3) [.T 0], .o 2 .move [.const (.bool false)]] none [2]) (.seq (.region [ .o 3 (.fieldAddr 0) [.t 1],
 .o 4 (.loadF 0 false 1 false) [.T 3], .o 5 (.bin .eql) [.T 4,.const (.int .i64 3)], .o 6 .move [.T 5], .z 7 (.fieldAddr 2) [.T 1] 6,
 .z 8 (.loadF 0 false 1 false) [.T 7] 6, .z 9 (.bin .gtr) [.T 8,.const (.int .i64 0)] 6, .o 10 .pick [.T 6,.const (.bool true),.T 9],
 .o 2 .move [.T 10]] none [1,7,8]) .ret)) }

/-- runrig/runrigref12.Right -/
def s18_l0 : SCode :=
 (.seq (.seq (.region [ .o 66 .move [.t 5], .o 67 .move [.t 4], .o 68 (.len .sl) [.T 67], .o 69 (.bin .lss) [.T 66,.T 68]] none []) (.cond (.T 69) []
 .skip [4,5] (.exit 2))) (.seq (.block 3 (.seq (.region [ .o 72 (.loadF 0 true 5 false) [.t 1], .o 73 .move [.t 4], .o 74 .move [.t 5],
 .o 75 (.indexAddr 4) [.T 73,.T 74], .o 76 (.fieldAddr 1) [.T 75], .o 77 (.load true 3 false) [.T 76], .o 78 (.call 47) [.T 72,.T 77],
 .o 79 (.un .not) [.T 78]] (some []) []) (.cond (.T 79) [1,3,4,5] (.seq (.region [ .o 2 .move [.const (.bool false)]] none []) .ret) [] .skip))) (.region [
 .o 70 .move [.T 5], .o 71 (.bin .add) [.T 70,.const (.int .i64 1)], .o 5 .move [.T 71]] none [])))
def s18_l1 : SCode :=
 (.seq (.seq (.region [ .o 50 .move [.t 3], .o 51 (.fieldAddr 0) [.t 1], .o 52 (.loadF 0 false 1 false) [.T 51], .o 53 (.len .sl) [.T 52],
 .o 54 (.bin .lss) [.T 50,.T 53]] none []) (.cond (.T 54) [] .skip [3] (.exit 0))) (.seq (.block 1 (.seq (.region [ .o 57 (.fieldAddr 0) [.t 1],
 .o 58 (.loadF 0 false 1 false) [.T 57], .o 59 .move [.t 3], .o 60 (.indexAddr 2) [.T 58,.T 59], .o 61 (.fieldAddr 1) [.T 60],
 .o 62 (.load false 1 false) [.T 61], .o 4 .move [.T 62]] none []) (.seq (.seq (.region [ .o 63 .move [.t 4], .o 64 (.len .sl) [.T 63],
 .o 65 (.bin .gtr) [.T 64,.const (.int .i64 8)]] none []) (.cond (.T 65) [1,3,4] (.seq (.region [ .o 2 .move [.const (.bool false)]] none []) .ret) [] .skip))
 (.seq (.region [ .o 5 .move [.const (.int .i64 0)]] none []) (.block 2 (.loop s18_l0)))))) (.region [ .o 55 .move [.T 3],
 .o 56 (.bin .add) [.T 55,.const (.int .i64 1)], .o 3 .move [.T 56]] none [])))
def s18_l2 : SCode :=
 (.seq (.seq (.region [ .o 80 .move [.t 6], .o 81 (.fieldAddr 3) [.t 1], .o 82 (.loadF 0 false 1 false) [.T 81], .o 83 (.len .sl) [.T 82],
 .o 84 (.bin .lss) [.T 80,.T 83]] none []) (.cond (.T 84) [] .skip [6] (.exit 4))) (.seq (.block 5 (.seq (.region [ .o 87 (.fieldAddr 3) [.t 1],
 .o 88 (.loadF 0 false 1 false) [.T 87], .o 89 .move [.t 6], .o 90 (.indexAddr 4) [.T 88,.T 89], .o 91 (.load true 4 false) [.T 90],
 .o 7 (.allocF 1 [.int .i64 0,.int .i64 0,.int .i64 0,.int .i64 0]) [], .n (.storeF 1 4) [.t 7,.T 91]] none []) (.seq (.region [ .o 92 (.fieldAddr 0) [.t 7],
 .o 93 (.loadF 1 false 1 false) [.T 92], .o 94 (.bin .lss) [.T 93,.const (.int .i64 0)], .o 95 .move [.T 94], .z 96 (.fieldAddr 0) [.t 7] 95,
 .z 97 (.loadF 1 false 1 false) [.T 96] 95, .z 98 (.fieldAddr 2) [.t 1] 95, .z 99 (.loadF 0 false 1 false) [.T 98] 95, .z 100 (.len .sl) [.T 99] 95,
 .z 101 (.bin .geq) [.T 97,.T 100] 95, .o 102 .pick [.T 95,.const (.bool true),.T 101], .o 103 .move [.T 102], .z 104 (.loadF 0 true 5 false) [.t 1] 103,
 .z 105 (.fieldAddr 1) [.t 7] 103, .z 106 (.loadF 1 true 3 false) [.T 105] 103, .z 107 (.call 47) [.T 104,.T 106] 103, .z 108 (.un .not) [.T 107] 103,
 .o 109 .pick [.T 103,.const (.bool true),.T 108], .o 110 .move [.T 109], .z 111 (.fieldAddr 1) [.T 7] 110, .z 112 (.loadF 1 true 3 false) [.T 111] 110,
 .z 113 (.call 17) [.T 112] 110, .z 114 (.un .not) [.T 113] 110,
 .o 115 .pick [.T 110,.const (.bool true),.T 114]] none [7,96,97,98,99,100,104,105,106,107,111,112,113]) (.cond (.T 115) [1,6] (.seq (.region [
 .o 2 .move [.const (.bool false)]] none []) .ret) [] .skip)))) (.region [ .o 85 .move [.T 6], .o 86 (.bin .add) [.T 85,.const (.int .i64 1)],
 .o 6 .move [.T 86]] none [])))
def s18_l3 : SCode :=
 (.seq (.seq (.region [ .o 116 .move [.t 9], .o 117 (.fieldAddr 2) [.t 1], .o 118 (.loadF 0 false 1 false) [.T 117], .o 119 (.len .sl) [.T 118],
 .o 120 (.bin .lss) [.T 116,.T 119]] none []) (.cond (.T 120) [] .skip [8,9] (.exit 6))) (.seq (.block 7 (.seq (.region [ .o 123 (.fieldAddr 2) [.t 1],
 .o 124 (.loadF 0 false 1 false) [.T 123], .o 125 .move [.t 9], .o 126 (.indexAddr 7) [.T 124,.T 125], .o 127 (.load true 7 false) [.T 126],
 .o 10 (.allocF 2 [.int .i64 0,.nilSl,.bool false,.int .i64 0,.int .i64 0,.int .i64 0,.nilSl]) [], .n (.storeF 2 7) [.t 10,.T 127]] none []) (.seq (.region [
 .o 128 .move [.T 8], .o 129 (.fieldAddr 6) [.t 10], .o 130 (.loadF 2 false 1 false) [.T 129], .o 131 (.len .sl) [.T 130], .o 132 (.bin .add) [.T 128,.T 131],
 .o 8 .move [.T 132]] none []) (.seq (.seq (.region [ .o 133 (.fieldAddr 1) [.t 10], .o 134 (.loadF 2 false 1 false) [.T 133], .o 135 (.len .sl) [.T 134],
 .o 136 (.bin .gtr) [.T 135,.const (.int .i64 4000)], .o 137 .move [.T 136], .z 138 (.fieldAddr 0) [.t 10] 137, .z 139 (.loadF 2 false 1 false) [.T 138] 137,
 .z 140 (.bin .lss) [.T 139,.const (.int .i64 0)] 137, .o 141 .pick [.T 137,.const (.bool true),.T 140], .o 142 .move [.T 141],
 .z 143 (.fieldAddr 0) [.t 10] 142, .z 144 (.loadF 2 false 1 false) [.T 143] 142, .z 145 (.bin .gtr) [.T 144,.const (.int .i64 6)] 142,
 .o 146 .pick [.T 142,.const (.bool true),.T 145], .o 147 .move [.T 146], .z 148 (.fieldAddr 0) [.t 10] 147, .z 149 (.loadF 2 false 1 false) [.T 148] 147,
 .z 150 (.fieldAddr 1) [.t 10] 147, .z 151 (.loadF 2 false 1 false) [.T 150] 147, .z 152 (.len .sl) [.T 151] 147, .z 153 (.bin .gtr) [.T 149,.T 152] 147,
 .o 154 .pick [.T 147,.const (.bool true),.T 153], .o 155 .move [.T 154], .z 156 (.loadF 0 true 5 false) [.t 1] 155, .z 157 (.fieldAddr 1) [.t 10] 155,
 .z 158 (.loadF 2 false 1 false) [.T 157] 155, .z 159 (.call 46) [.T 156,.T 158] 155, .z 160 (.un .not) [.T 159] 155,
 .o 161 .pick [.T 155,.const (.bool true),.T 160], .o 162 .move [.T 161], .z 163 (.fieldAddr 6) [.t 10] 162, .z 164 (.loadF 2 false 1 false) [.T 163] 162,
 .z 165 (.len .sl) [.T 164] 162, .z 166 (.bin .lss) [.T 165,.const (.int .i64 1)] 162, .o 167 .pick [.T 162,.const (.bool true),.T 166], .o 168 .move [.T 167],
 .z 169 .move [.t 8] 168, .z 170 (.bin .gtr) [.T 169,.const (.int .i64 2500)] 168,
 .o 171 .pick [.T 168,.const (.bool true),.T 170]] none [138,139,143,144,148,149,150,151,152,156,157,158,159,163,164,165,169]) (.cond (.T 171) [1,8,9,10] (.seq
 (.region [ .o 2 .move [.const (.bool false)]] none []) .ret) [] .skip)) (.seq (.region [ .o 172 (.fieldAddr 2) [.t 10],
 .o 173 (.loadF 2 false 1 false) [.T 172], .o 174 .move [.T 173], .y 175 (.loadF 0 true 5 false) [.t 1] 174, .y 176 (.fieldAddr 3) [.t 10] 174,
 .y 177 (.loadF 2 true 3 false) [.T 176] 174, .y 178 (.call 47) [.T 175,.T 177] 174, .y 179 (.un .not) [.T 178] 174,
 .o 180 .pick [.T 174,.T 179,.const (.bool false)], .o 181 .move [.T 180], .z 182 (.fieldAddr 2) [.t 10] 181, .z 183 (.loadF 2 false 1 false) [.T 182] 181,
 .z 184 (.un .not) [.T 183] 181, .z 185 .move [.T 184] 181, .y 186 (.fieldAddr 3) [.T 10] 185, .y 187 (.loadF 2 true 3 false) [.T 186] 185,
 .y 188 (.build [.int .i64 0,.int .i64 0,.int .i64 0] []) [] 185, .y 189 (.eqv (.flat [.int,.int,.int]) true) [.T 187,.T 188] 185,
 .z 190 .pick [.T 185,.T 189,.const (.bool false)] 181,
 .o 191 .pick [.T 181,.const (.bool true),.T 190]] none [10,175,176,177,178,182,183,184,185,186,187,188,189]) (.cond (.T 191) [1,8,9] (.seq (.region [
 .o 2 .move [.const (.bool false)]] none []) .ret) [] .skip)))))) (.region [ .o 121 .move [.T 9], .o 122 (.bin .add) [.T 121,.const (.int .i64 1)],
 .o 9 .move [.T 122]] none [])))
def s18_l4 : SCode :=
 (.seq (.seq (.region [ .o 205 .move [.t 13], .o 206 .move [.t 12], .o 207 (.len .sl) [.T 206], .o 208 (.bin .lss) [.T 205,.T 207]] none []) (.cond (.T 208) []
 .skip [13] (.exit 10))) (.seq (.block 11 (.seq (.region [ .o 211 (.loadF 0 true 5 false) [.t 1], .o 212 .move [.t 11], .o 213 .move [.t 12],
 .o 214 .move [.t 13], .o 215 (.indexAddr 6) [.T 213,.T 214], .o 216 (.load true 6 false) [.T 215], .o 217 (.call 48) [.T 211,.T 212,.T 216],
 .o 218 (.un .not) [.T 217]] (some []) []) (.cond (.T 218) [1,11,12,13] (.seq (.region [ .o 2 .move [.const (.bool false)]] none []) .ret) [] .skip)))
 (.region [ .o 209 .move [.T 13], .o 210 (.bin .add) [.T 209,.const (.int .i64 1)], .o 13 .move [.T 210]] none [])))
def s18_l5 : SCode :=
 (.seq (.seq (.region [ .o 192 .move [.t 11], .o 193 (.fieldAddr 2) [.t 1], .o 194 (.loadF 0 false 1 false) [.T 193], .o 195 (.len .sl) [.T 194],
 .o 196 (.bin .lss) [.T 192,.T 195]] none []) (.cond (.T 196) [] .skip [11] (.exit 8))) (.seq (.block 9 (.seq (.region [ .o 199 (.fieldAddr 2) [.t 1],
 .o 200 (.loadF 0 false 1 false) [.T 199], .o 201 .move [.t 11], .o 202 (.indexAddr 7) [.T 200,.T 201], .o 203 (.fieldAddr 6) [.T 202],
 .o 204 (.load false 1 false) [.T 203], .o 12 .move [.T 204]] none []) (.seq (.seq (.region [ .o 13 .move [.const (.int .i64 0)]] none []) (.block 10
 (.loop s18_l4))) (.seq (.region [ .o 219 .move [.t 12], .o 220 .move [.T 12], .o 221 (.len .sl) [.T 220], .o 222 (.bin .sub) [.T 221,.const (.int .i64 1)],
 .o 223 (.indexAddr 6) [.T 219,.T 222], .o 224 (.fieldAddr 0) [.T 223], .o 225 (.load false 1 false) [.T 224], .o 14 .move [.T 225]] none []) (.seq (.region [
 .o 226 .move [.t 14], .o 227 (.bin .neq) [.T 226,.const (.int .i64 16)], .o 228 .move [.T 227], .y 229 .move [.t 14] 228,
 .y 230 (.bin .neq) [.T 229,.const (.int .i64 17)] 228, .o 231 .pick [.T 228,.T 230,.const (.bool false)], .o 232 .move [.T 231], .y 233 .move [.T 14] 232,
 .y 234 (.bin .neq) [.T 233,.const (.int .i64 18)] 232, .o 235 .pick [.T 232,.T 234,.const (.bool false)]] none [14,229,233]) (.cond (.T 235) [1,11] (.seq
 (.region [ .o 2 .move [.const (.bool false)]] none []) .ret) [] .skip)))))) (.region [ .o 197 .move [.T 11], .o 198 (.bin .add) [.T 197,.const (.int .i64 1)],
 .o 11 .move [.T 198]] none [])))
def s18 : SFunc := { fid := 18,mode := .pure,nparams := 1,nboxes := 3,clr := [],results := [.tmp 2 false],body :=
 (.seq (.region [ .o 1 (.boxF 0 5) [.T 0], .o 2 .move [.const (.bool false)]] none [2]) (.seq (.seq (.region [ .o 15 (.fieldAddr 0) [.t 1],
 .o 16 (.loadF 0 false 1 false) [.T 15], .o 17 (.len .sl) [.T 16], .o 18 (.bin .gtr) [.T 17,.const (.int .i64 12)], .o 19 .move [.T 18],
 .z 20 (.fieldAddr 1) [.t 1] 19, .z 21 (.loadF 0 false 1 false) [.T 20] 19, .z 22 (.len .sl) [.T 21] 19, .z 23 (.bin .gtr) [.T 22,.const (.int .i64 8)] 19,
 .o 24 .pick [.T 19,.const (.bool true),.T 23], .o 25 .move [.T 24], .z 26 (.fieldAddr 2) [.t 1] 25, .z 27 (.loadF 0 false 1 false) [.T 26] 25,
 .z 28 (.len .sl) [.T 27] 25, .z 29 (.bin .lss) [.T 28,.const (.int .i64 1)] 25, .o 30 .pick [.T 25,.const (.bool true),.T 29], .o 31 .move [.T 30],
 .z 32 (.fieldAddr 2) [.t 1] 31, .z 33 (.loadF 0 false 1 false) [.T 32] 31, .z 34 (.len .sl) [.T 33] 31, .z 35 (.bin .gtr) [.T 34,.const (.int .i64 16)] 31,
 .o 36 .pick [.T 31,.const (.bool true),.T 35], .o 37 .move [.T 36], .z 38 (.fieldAddr 3) [.t 1] 37, .z 39 (.loadF 0 false 1 false) [.T 38] 37,
 .z 40 (.len .sl) [.T 39] 37, .z 41 (.bin .gtr) [.T 40,.const (.int .i64 60)] 37, .o 42 .pick [.T 37,.const (.bool true),.T 41], .o 43 .move [.T 42],
 .z 44 (.loadF 0 true 5 false) [.t 1] 43, .z 45 (.fieldAddr 1) [.t 1] 43, .z 46 (.loadF 0 false 1 false) [.T 45] 43, .z 47 (.call 46) [.T 44,.T 46] 43,
 .z 48 (.un .not) [.T 47] 43, .o 49 .pick [.T 43,.const (.bool true),.T 48]] none [20,21,22,26,27,28,32,33,34,38,39,40,44,45,46,47]) (.cond (.T 49) [1] (.seq
 (.region [ .o 2 .move [.const (.bool false)]] none []) .ret) [] .skip)) (.seq (.seq (.region [ .o 3 .move [.const (.int .i64 0)]] none []) (.block 0
 (.loop s18_l1))) (.seq (.seq (.region [ .o 6 .move [.const (.int .i64 0)]] none []) (.block 4 (.loop s18_l2))) (.seq (.region [
 .o 8 .move [.const (.int .i64 0)]] none []) (.seq (.seq (.region [ .o 9 .move [.const (.int .i64 0)]] none []) (.block 6 (.loop s18_l3))) (.seq (.seq
 (.region [ .o 11 .move [.const (.int .i64 0)]] none []) (.block 8 (.loop s18_l5))) (.seq (.region [ .o 236 (.fieldAddr 4) [.t 1],
 .o 237 (.loadF 0 false 1 false) [.T 236], .o 238 (.bin .geq) [.T 237,.const (.int .i64 0)], .o 239 .move [.T 238], .y 240 (.fieldAddr 4) [.t 1] 239,
 .y 241 (.loadF 0 false 1 false) [.T 240] 239, .y 242 (.fieldAddr 2) [.t 1] 239, .y 243 (.loadF 0 false 1 false) [.T 242] 239, .y 244 (.len .sl) [.T 243] 239,
 .y 245 (.bin .lss) [.T 241,.T 244] 239, .o 246 .pick [.T 239,.T 245,.const (.bool false)], .o 247 .move [.T 246], .y 248 (.fieldAddr 2) [.t 1] 247,
 .y 249 (.loadF 0 false 1 false) [.T 248] 247, .y 250 (.fieldAddr 4) [.t 1] 247, .y 251 (.loadF 0 false 1 false) [.T 250] 247,
 .y 252 (.indexAddr 7) [.T 249,.T 251] 247, .y 253 (.fieldAddr 0) [.T 252] 247, .y 254 (.load false 1 false) [.T 253] 247,
 .y 255 (.bin .eql) [.T 254,.const (.int .i64 0)] 247, .o 256 .pick [.T 247,.T 255,.const (.bool false)], .o 257 .move [.T 256],
 .y 258 (.fieldAddr 2) [.t 1] 257, .y 259 (.loadF 0 false 1 false) [.T 258] 257, .y 260 (.fieldAddr 4) [.T 1] 257,
 .y 261 (.loadF 0 false 1 false) [.T 260] 257, .y 262 (.indexAddr 7) [.T 259,.T 261] 257, .y 263 (.fieldAddr 2) [.T 262] 257,
 .y 264 (.load false 1 false) [.T 263] 257, .y 265 (.un .not) [.T 264] 257, .o 266 .pick [.T 257,.T 265,.const (.bool false)],
 .o 2 .move [.T 266]] none [1,240,241,242,243,244,248,249,250,251,252,253,254,258,259,260,261,262,263,264]) .ret)))))))) }

/-- runrig/cons.Var -/

def s19 : SFunc := { fid := 19,mode := .pure,nparams := 3,nboxes := 1,clr := [],results := [.tmp 6 false],body :=
 (.seq (.region [ .o 3 (.boxF 0 5) [.T 0], .o 6 .move [.const (.int .i64 0)]] none [6]) (.seq (.seq (.region [ .o 7 (.loadF 0 true 5 false) [.t 3],
 .o 8 (.call 25) [.T 7], .o 9 (.un .not) [.T 8], .o 10 .move [.T 9], .z 11 .move [.t 1] 10, .z 12 (.bin .lss) [.T 11,.const (.int .i64 0)] 10,
 .o 13 .pick [.T 10,.const (.bool true),.T 12], .o 14 .move [.T 13], .z 15 .move [.t 1] 14, .z 16 (.fieldAddr 2) [.t 3] 14,
 .z 17 (.loadF 0 false 1 false) [.T 16] 14, .z 18 (.len .sl) [.T 17] 14, .z 19 (.bin .geq) [.T 15,.T 18] 14, .o 20 .pick [.T 14,.const (.bool true),.T 19],
 .o 21 .move [.T 20], .z 22 .move [.t 2] 21, .z 23 (.bin .lss) [.T 22,.const (.int .i64 0)] 21, .o 24 .pick [.T 21,.const (.bool true),.T 23],
 .o 25 .move [.T 24], .z 26 .move [.t 2] 25, .z 27 (.fieldAddr 2) [.t 3] 25, .z 28 (.loadF 0 false 1 false) [.T 27] 25, .z 29 .move [.t 1] 25,
 .z 30 (.indexAddr 7) [.T 28,.T 29] 25, .z 31 (.fieldAddr 1) [.T 30] 25, .z 32 (.load false 1 false) [.T 31] 25, .z 33 (.len .sl) [.T 32] 25,
 .z 34 (.bin .geq) [.T 26,.T 33] 25, .o 35 .pick [.T 25,.const (.bool true),.T 34]] none [11,15,16,17,18,22,26,27,28,29,30,31,32,33]) (.cond (.T 35) [1,2,3]
 (.seq (.region [ .o 6 .move [.const (.int .i64 (-1))]] none []) .ret) [] .skip)) (.seq (.region [ .o 36 (.loadF 0 true 5 false) [.T 3],
 .o 37 (.call 26) [.T 36], .o 38 .move [.T 1], .o 39 (.indexAddr 1) [.T 37,.T 38], .o 40 (.load false 1 false) [.T 39], .o 41 .move [.T 2],
 .o 42 (.bin .add) [.T 40,.T 41], .o 6 .move [.T 42]] none []) .ret))) }

/-- runrig/runrigref19.Var -/

def s20 : SFunc := { fid := 20,mode := .pure,nparams := 3,nboxes := 1,clr := [],results := [.tmp 6 false],body :=
 (.seq (.region [ .o 3 (.boxF 0 5) [.T 0], .o 6 .move [.const (.int .i64 0)]] none [6]) (.seq (.seq (.region [ .o 7 (.loadF 0 true 5 false) [.t 3],
 .o 8 (.call 18) [.T 7], .o 9 (.un .not) [.T 8], .o 10 .move [.T 9], .z 11 .move [.t 1] 10, .z 12 (.bin .lss) [.T 11,.const (.int .i64 0)] 10,
 .o 13 .pick [.T 10,.const (.bool true),.T 12], .o 14 .move [.T 13], .z 15 .move [.t 1] 14, .z 16 (.fieldAddr 2) [.t 3] 14,
 .z 17 (.loadF 0 false 1 false) [.T 16] 14, .z 18 (.len .sl) [.T 17] 14, .z 19 (.bin .geq) [.T 15,.T 18] 14, .o 20 .pick [.T 14,.const (.bool true),.T 19],
 .o 21 .move [.T 20], .z 22 .move [.t 2] 21, .z 23 (.bin .lss) [.T 22,.const (.int .i64 0)] 21, .o 24 .pick [.T 21,.const (.bool true),.T 23],
 .o 25 .move [.T 24], .z 26 .move [.t 2] 25, .z 27 (.fieldAddr 2) [.t 3] 25, .z 28 (.loadF 0 false 1 false) [.T 27] 25, .z 29 .move [.t 1] 25,
 .z 30 (.indexAddr 7) [.T 28,.T 29] 25, .z 31 (.fieldAddr 1) [.T 30] 25, .z 32 (.load false 1 false) [.T 31] 25, .z 33 (.len .sl) [.T 32] 25,
 .z 34 (.bin .geq) [.T 26,.T 33] 25, .o 35 .pick [.T 25,.const (.bool true),.T 34]] none [11,15,16,17,18,22,26,27,28,29,30,31,32,33]) (.cond (.T 35) [1,2,3]
 (.seq (.region [ .o 6 .move [.const (.int .i64 (-1))]] none []) .ret) [] .skip)) (.seq (.region [ .o 36 (.loadF 0 true 5 false) [.T 3], .o 37 .move [.T 1],
 .o 38 .move [.T 2], .o 39 (.call 49) [.T 36,.T 37,.T 38], .o 6 .move [.T 39]] none []) .ret))) }

/-- runrig/cons.Result -/

def s21 : SFunc := { fid := 21,mode := .pure,nparams := 2,nboxes := 1,clr := [],results := [.tmp 4 false],body :=
 (.seq (.region [ .o 2 (.boxF 0 5) [.T 0], .o 4 .move [.const (.int .i64 0)]] none [4]) (.seq (.seq (.region [ .o 5 (.loadF 0 true 5 false) [.t 2],
 .o 6 (.call 25) [.T 5], .o 7 (.un .not) [.T 6], .o 8 .move [.T 7], .z 9 .move [.t 1] 8, .z 10 (.bin .lss) [.T 9,.const (.int .i64 0)] 8,
 .o 11 .pick [.T 8,.const (.bool true),.T 10], .o 12 .move [.T 11], .z 13 .move [.t 1] 12, .z 14 (.fieldAddr 2) [.t 2] 12,
 .z 15 (.loadF 0 false 1 false) [.T 14] 12, .z 16 (.len .sl) [.T 15] 12, .z 17 (.bin .geq) [.T 13,.T 16] 12,
 .o 18 .pick [.T 12,.const (.bool true),.T 17]] none [9,13,14,15,16]) (.cond (.T 18) [1,2] (.seq (.region [ .o 4 .move [.const (.int .i64 (-1))]] none [])
 .ret) [] .skip)) (.seq (.region [ .o 19 (.loadF 0 true 5 false) [.T 2], .o 20 (.call 27) [.T 19], .o 21 .move [.T 1], .o 22 (.bin .add) [.T 20,.T 21],
 .o 4 .move [.T 22]] none []) .ret))) }

/-- runrig/runrigref19.Result -/

def s22 : SFunc := { fid := 22,mode := .pure,nparams := 2,nboxes := 1,clr := [],results := [.tmp 4 false],body :=
 (.seq (.region [ .o 2 (.boxF 0 5) [.T 0], .o 4 .move [.const (.int .i64 0)]] none [4]) (.seq (.seq (.region [ .o 5 (.loadF 0 true 5 false) [.t 2],
 .o 6 (.call 18) [.T 5], .o 7 (.un .not) [.T 6], .o 8 .move [.T 7], .z 9 .move [.t 1] 8, .z 10 (.bin .lss) [.T 9,.const (.int .i64 0)] 8,
 .o 11 .pick [.T 8,.const (.bool true),.T 10], .o 12 .move [.T 11], .z 13 .move [.t 1] 12, .z 14 (.fieldAddr 2) [.t 2] 12,
 .z 15 (.loadF 0 false 1 false) [.T 14] 12, .z 16 (.len .sl) [.T 15] 12, .z 17 (.bin .geq) [.T 13,.T 16] 12,
 .o 18 .pick [.T 12,.const (.bool true),.T 17]] none [9,13,14,15,16]) (.cond (.T 18) [1,2] (.seq (.region [ .o 4 .move [.const (.int .i64 (-1))]] none [])
 .ret) [] .skip)) (.seq (.region [ .o 19 (.loadF 0 true 5 false) [.T 2], .o 20 .move [.T 1], .o 21 (.call 50) [.T 19,.T 20], .o 4 .move [.T 21]] none [])
 .ret))) }

/-- runrig/cons.Global -/

def s23 : SFunc := { fid := 23,mode := .pure,nparams := 2,nboxes := 1,clr := [],results := [.tmp 4 false],body :=
 (.seq (.region [ .o 2 (.boxF 0 5) [.T 0], .o 4 .move [.const (.int .i64 0)]] none [4]) (.seq (.seq (.region [ .o 5 (.loadF 0 true 5 false) [.t 2],
 .o 6 (.call 25) [.T 5], .o 7 (.un .not) [.T 6], .o 8 .move [.T 7], .z 9 .move [.t 1] 8, .z 10 (.bin .lss) [.T 9,.const (.int .i64 0)] 8,
 .o 11 .pick [.T 8,.const (.bool true),.T 10], .o 12 .move [.T 11], .z 13 .move [.t 1] 12, .z 14 (.fieldAddr 1) [.t 2] 12,
 .z 15 (.loadF 0 false 1 false) [.T 14] 12, .z 16 (.len .sl) [.T 15] 12, .z 17 (.bin .geq) [.T 13,.T 16] 12,
 .o 18 .pick [.T 12,.const (.bool true),.T 17]] none [9,13,14,15,16]) (.cond (.T 18) [1,2] (.seq (.region [ .o 4 .move [.const (.int .i64 (-1))]] none [])
 .ret) [] .skip)) (.seq (.region [ .o 19 (.loadF 0 true 5 false) [.t 2], .o 20 (.call 27) [.T 19], .o 21 (.fieldAddr 2) [.t 2],
 .o 22 (.loadF 0 false 1 false) [.T 21], .o 23 (.len .sl) [.T 22], .o 24 (.bin .add) [.T 20,.T 23], .o 25 .move [.T 1], .o 26 (.bin .add) [.T 24,.T 25],
 .o 4 .move [.T 26]] (some []) [2]) .ret))) }

/-- runrig/runrigref19.Global -/

def s24 : SFunc := { fid := 24,mode := .pure,nparams := 2,nboxes := 1,clr := [],results := [.tmp 4 false],body :=
 (.seq (.region [ .o 2 (.boxF 0 5) [.T 0], .o 4 .move [.const (.int .i64 0)]] none [4]) (.seq (.seq (.region [ .o 5 (.loadF 0 true 5 false) [.t 2],
 .o 6 (.call 18) [.T 5], .o 7 (.un .not) [.T 6], .o 8 .move [.T 7], .z 9 .move [.t 1] 8, .z 10 (.bin .lss) [.T 9,.const (.int .i64 0)] 8,
 .o 11 .pick [.T 8,.const (.bool true),.T 10], .o 12 .move [.T 11], .z 13 .move [.t 1] 12, .z 14 (.fieldAddr 1) [.t 2] 12,
 .z 15 (.loadF 0 false 1 false) [.T 14] 12, .z 16 (.len .sl) [.T 15] 12, .z 17 (.bin .geq) [.T 13,.T 16] 12,
 .o 18 .pick [.T 12,.const (.bool true),.T 17]] none [9,13,14,15,16]) (.cond (.T 18) [1,2] (.seq (.region [ .o 4 .move [.const (.int .i64 (-1))]] none [])
 .ret) [] .skip)) (.seq (.region [ .o 19 (.loadF 0 true 5 false) [.T 2], .o 20 .move [.T 1], .o 21 (.call 51) [.T 19,.T 20], .o 4 .move [.T 21]] none [])
 .ret))) }

/-- runrig/ir.Right -/

def s25 : SFunc := { fid := 25,mode := .pure,nparams := 1,nboxes := 2,clr := [],results := [.tmp 2 false],body :=
 (.seq (.region [ .o 1 (.boxF 0 5) [.T 0], .o 2 .move [.const (.bool false)]] none [2]) (.seq (.seq (.region [ .o 4 (.fieldAddr 0) [.t 1],
 .o 5 (.loadF 0 false 1 false) [.T 4], .o 6 (.len .sl) [.T 5], .o 7 (.bin .gtr) [.T 6,.const (.int .i64 12)], .o 8 .move [.T 7], .z 9 (.fieldAddr 1) [.t 1] 8,
 .z 10 (.loadF 0 false 1 false) [.T 9] 8, .z 11 (.len .sl) [.T 10] 8, .z 12 (.bin .gtr) [.T 11,.const (.int .i64 8)] 8,
 .o 13 .pick [.T 8,.const (.bool true),.T 12], .o 14 .move [.T 13], .z 15 (.fieldAddr 2) [.t 1] 14, .z 16 (.loadF 0 false 1 false) [.T 15] 14,
 .z 17 (.len .sl) [.T 16] 14, .z 18 (.bin .eql) [.T 17,.const (.int .i64 0)] 14, .o 19 .pick [.T 14,.const (.bool true),.T 18], .o 20 .move [.T 19],
 .z 21 (.fieldAddr 2) [.t 1] 20, .z 22 (.loadF 0 false 1 false) [.T 21] 20, .z 23 (.len .sl) [.T 22] 20, .z 24 (.bin .gtr) [.T 23,.const (.int .i64 16)] 20,
 .o 25 .pick [.T 20,.const (.bool true),.T 24], .o 26 .move [.T 25], .z 27 (.fieldAddr 3) [.t 1] 26, .z 28 (.loadF 0 false 1 false) [.T 27] 26,
 .z 29 (.len .sl) [.T 28] 26, .z 30 (.bin .gtr) [.T 29,.const (.int .i64 60)] 26, .o 31 .pick [.T 26,.const (.bool true),.T 30], .o 32 .move [.T 31],
 .z 33 (.fieldAddr 4) [.t 1] 32, .z 34 (.loadF 0 false 1 false) [.T 33] 32, .z 35 (.bin .lss) [.T 34,.const (.int .i64 0)] 32,
 .o 36 .pick [.T 32,.const (.bool true),.T 35], .o 37 .move [.T 36], .z 38 (.fieldAddr 4) [.t 1] 37, .z 39 (.loadF 0 false 1 false) [.T 38] 37,
 .z 40 (.fieldAddr 2) [.t 1] 37, .z 41 (.loadF 0 false 1 false) [.T 40] 37, .z 42 (.len .sl) [.T 41] 37, .z 43 (.bin .geq) [.T 39,.T 42] 37,
 .o 44 .pick [.T 37,.const (.bool true),.T 43]] none [9,10,11,15,16,17,21,22,23,27,28,29,33,34,38,39,40,41,42]) (.cond (.T 44) [1] (.seq (.region [
 .o 2 .move [.const (.bool false)]] none []) .ret) [] .skip)) (.seq (.region [ .o 45 (.fieldAddr 2) [.t 1], .o 46 (.loadF 0 false 1 false) [.T 45],
 .o 47 (.fieldAddr 4) [.t 1], .o 48 (.loadF 0 false 1 false) [.T 47], .o 49 (.indexAddr 7) [.T 46,.T 48], .o 50 (.load true 7 false) [.T 49],
 .o 3 (.allocF 1 [.int .i64 0,.nilSl,.bool false,.int .i64 0,.int .i64 0,.int .i64 0,.nilSl]) [], .n (.storeF 1 7) [.t 3,.T 50]] none []) (.seq (.region [
 .o 51 (.fieldAddr 0) [.t 3], .o 52 (.loadF 1 false 1 false) [.T 51], .o 53 (.bin .eql) [.T 52,.const (.int .i64 0)], .o 54 .move [.T 53],
 .y 55 (.fieldAddr 2) [.T 3] 54, .y 56 (.loadF 1 false 1 false) [.T 55] 54, .y 57 (.un .not) [.T 56] 54, .o 58 .pick [.T 54,.T 57,.const (.bool false)],
 .o 59 .move [.T 58], .y 60 (.loadF 0 true 5 false) [.t 1] 59, .y 61 (.call 52) [.T 60] 59, .o 62 .pick [.T 59,.T 61,.const (.bool false)],
 .o 63 .move [.T 62], .y 64 (.loadF 0 true 5 false) [.t 1] 63, .y 65 (.fieldAddr 1) [.t 1] 63, .y 66 (.loadF 0 false 1 false) [.T 65] 63,
 .y 67 (.call 53) [.T 64,.T 66] 63, .o 68 .pick [.T 63,.T 67,.const (.bool false)], .o 69 .move [.T 68], .y 70 (.loadF 0 true 5 false) [.t 1] 69,
 .y 71 (.call 54) [.T 70] 69, .o 72 .pick [.T 69,.T 71,.const (.bool false)], .o 73 .move [.T 72], .y 74 (.loadF 0 true 5 false) [.T 1] 73,
 .y 75 (.call 55) [.T 74] 73, .o 76 .pick [.T 73,.T 75,.const (.bool false)], .o 2 .move [.T 76]] none [1,3,55,56,60,64,65,66,70,74]) .ret)))) }

/-- runrig/cons.nodes -/
def s26_l0 : SCode :=
 (.seq (.region [ .o 11 (.bin .lss) [.t 10,.t 9]] none []) (.seq (.cond (.T 11) [] .skip [8,9,10] (.exit 0)) (.seq (.block 1 (.seq (.region [
 .o 12 (.indexAddr 7) [.t 8,.t 10], .o 13 (.load true 7 false) [.T 12],
 .o 5 (.allocF 1 [.int .i64 0,.nilSl,.bool false,.int .i64 0,.int .i64 0,.int .i64 0,.nilSl]) [], .n (.storeF 1 7) [.t 5,.T 13]] none []) (.region [
 .o 14 .move [.t 3], .o 15 .move [.t 3], .o 16 .move [.t 3], .o 17 (.len .sl) [.T 16], .o 18 (.bin .sub) [.T 17,.const (.int .i64 1)],
 .o 19 (.indexAddr 1) [.T 15,.T 18], .o 20 (.load false 1 false) [.T 19], .o 21 (.fieldAddr 1) [.T 5], .o 22 (.loadF 1 false 1 false) [.T 21],
 .o 23 (.len .sl) [.T 22], .o 24 (.bin .add) [.T 20,.T 23], .o 25 (.lit 1 1 [.int .i64 0] [0]) [.T 24], .o 26 (.appendM 1 8) [.T 14,.T 25],
 .o 3 .move [.T 26]] (some []) []))) (.region [ .o 27 (.bin .add) [.T 10,.const (.int .i64 1)], .o 10 .move [.T 27]] none []))))
def s26 : SFunc := { fid := 26,mode := .pure,nparams := 1,nboxes := 2,clr := [],results := [.tmp 2 true],body :=
 (.seq (.region [ .o 1 (.boxF 0 5) [.T 0], .o 2 .move [.const .nilSl]] none [2]) (.seq (.region [ .o 6 (.litM 1 1 [.int .i64 0] [0]) [.const (.int .i64 0)],
 .o 3 .move [.T 6]] none []) (.seq (.seq (.region [ .o 7 (.fieldAddr 2) [.T 1], .o 8 (.loadF 0 false 1 false) [.T 7], .o 9 (.len .sl) [.t 8],
 .o 10 .move [.const (.int .i64 0)]] none []) (.block 0 (.loop s26_l0))) (.seq (.seq (.frz 3) (.region [ .o 28 .move [.T 3], .o 2 .move [.T 28]] none []))
 .ret)))) }

/-- runrig/cons.variables -/

def s27 : SFunc := { fid := 27,mode := .pure,nparams := 1,nboxes := 1,clr := [],results := [.tmp 2 false],body :=
 (.seq (.region [ .o 1 (.boxF 0 5) [.T 0], .o 2 .move [.const (.int .i64 0)]] none [2]) (.seq (.region [ .o 3 (.loadF 0 true 5 false) [.t 1],
 .o 4 (.call 26) [.T 3], .o 5 (.fieldAddr 2) [.t 1], .o 6 (.loadF 0 false 1 false) [.T 5], .o 7 (.len .sl) [.T 6], .o 8 (.indexAddr 1) [.T 4,.T 7],
 .o 9 (.load false 1 false) [.T 8], .o 2 .move [.T 9]] (some []) [1]) .ret)) }

/-- (*runrig/cons.maker).ins -/

def s28 : SFunc := { fid := 28,mode := .scp,nparams := 2,nboxes := 1,clr := [],results := [],body :=
 (.seq (.region [ .o 3 (.boxF 0 6) [.T 1]] none []) (.seq (.region [ .o 4 (.fieldAddr 0) [.t 3], .o 5 (.loadF 0 false 1 false) [.T 4]] none []) (.block 0 (.seq
 (.seq (.region [ .o 10 (.bin .eql) [.t 5,.const (.int .i64 11)], .o 9 .move [.T 10]] none []) (.cond (.t 9) [] .skip [9] (.region [
 .o 11 (.bin .eql) [.t 5,.const (.int .i64 12)], .o 9 .move [.T 11]] none []))) (.cond (.T 9) [5] (.region [ .o 12 .move [.t 0], .o 13 .move [.t 0],
 .o 14 (.fieldAddr 1) [.t 3], .o 15 (.loadF 0 false 1 false) [.T 14], .o 16 (.call 57) [.T 13,.T 15], .o 17 (.fieldAddr 4) [.t 3],
 .o 18 (.loadF 0 false 1 false) [.T 17], .o 19 (.call 56) [.T 12,.const (.int .i64 1),.T 16,.T 18,.const (.int .i64 0)]] (some []) [0,3,19]) [] (.seq
 (.region [ .o 21 (.bin .eql) [.t 5,.const (.int .i64 13)], .o 20 .move [.T 21]] none []) (.cond (.T 20) [5] (.region [ .o 22 .move [.T 0],
 .o 23 (.loadF 0 true 6 false) [.T 3], .o 24 (.call 58) [.T 22,.T 23]] none [24]) [] (.seq (.region [ .o 26 (.bin .eql) [.t 5,.const (.int .i64 18)],
 .o 25 .move [.T 26]] none []) (.cond (.T 25) [5] (.seq (.region [ .o 27 .move [.t 0], .o 28 (.fieldAddr 1) [.t 3], .o 29 (.loadF 0 false 1 false) [.T 28],
 .o 30 (.call 59) [.T 27,.T 29]] none []) (.cond (.T 30) [] (.region [ .o 31 .move [.t 0], .o 32 .move [.t 0], .o 33 .move [.t 0], .o 34 .nilCheck [.T 33],
 .o 35 (.fieldAddr 8) [.T 34], .o 36 (.load false 1 false) [.T 35], .o 37 (.call 60) [.T 32,.T 36], .o 38 .move [.t 0], .o 39 (.fieldAddr 1) [.T 3],
 .o 40 (.loadF 0 false 1 false) [.T 39], .o 41 (.call 57) [.T 38,.T 40],
 .o 42 (.call 56) [.T 31,.const (.int .i64 2),.T 37,.T 41,.const (.int .i64 0)]] (some []) [0,42]) [0,3] .skip)) [] (.seq (.region [
 .o 44 (.bin .eql) [.t 5,.const (.int .i64 19)], .o 43 .move [.T 44]] none []) (.cond (.T 43) [5] (.seq (.region [ .o 45 .move [.t 0],
 .o 46 (.fieldAddr 1) [.t 3], .o 47 (.loadF 0 false 1 false) [.T 46], .o 48 (.call 59) [.T 45,.T 47]] none []) (.cond (.T 48) [] (.region [ .o 49 .move [.t 0],
 .o 50 .move [.t 0], .o 51 (.fieldAddr 1) [.t 3], .o 52 (.loadF 0 false 1 false) [.T 51], .o 53 (.call 57) [.T 50,.T 52], .o 54 .move [.t 0],
 .o 55 (.fieldAddr 4) [.t 3], .o 56 (.loadF 0 false 1 false) [.T 55], .o 57 (.call 61) [.T 54,.T 56],
 .o 58 (.call 56) [.T 49,.const (.int .i64 2),.T 53,.T 57,.const (.int .i64 0)]] (some []) [0,3,58]) [0,3] .skip)) [] (.seq (.region [
 .o 60 (.bin .eql) [.T 5,.const (.int .i64 20)], .o 59 .move [.T 60]] none []) (.cond (.T 59) [] (.seq (.region [ .o 61 .move [.t 0],
 .o 62 (.fieldAddr 1) [.t 3], .o 63 (.loadF 0 false 1 false) [.T 62], .o 64 (.call 59) [.T 61,.T 63]] none []) (.cond (.T 64) [] (.region [ .o 65 .move [.t 0],
 .o 66 .move [.t 0], .o 67 (.fieldAddr 4) [.t 3], .o 68 (.loadF 0 false 1 false) [.T 67], .o 69 (.call 61) [.T 66,.T 68], .o 70 .move [.t 0],
 .o 71 (.fieldAddr 1) [.t 3], .o 72 (.loadF 0 false 1 false) [.T 71], .o 73 (.call 57) [.T 70,.T 72],
 .o 74 (.call 56) [.T 65,.const (.int .i64 2),.T 69,.T 73,.const (.int .i64 0)]] (some []) [0,3,74]) [0,3] .skip)) [] (.region [ .o 6 .move [.T 0],
 .o 7 (.loadF 0 true 6 false) [.T 3], .o 8 (.call 62) [.T 6,.T 7]] none [8])))))))))))))) }

/-- runrig/runrigref19.MakeOf -/
def s29_l0 : SCode :=
 (.seq (.seq (.region [ .o 23 .move [.t 7], .o 24 (.fieldAddr 6) [.t 5], .o 25 (.loadF 1 false 1 false) [.T 24], .o 26 (.len .sl) [.T 25],
 .o 27 (.bin .lss) [.T 23,.T 26]] none []) (.cond (.T 27) [] .skip [5,6,7] (.exit 2))) (.seq (.block 3 (.region [ .o 30 .move [.T 3],
 .o 31 (.loadF 0 true 5 false) [.t 1], .o 32 .move [.t 4], .o 33 .move [.t 6], .o 34 (.fieldAddr 6) [.t 5], .o 35 (.loadF 1 false 1 false) [.T 34],
 .o 36 .move [.t 7], .o 37 (.indexAddr 6) [.T 35,.T 36], .o 38 (.load true 6 false) [.T 37], .o 39 (.call 63) [.T 31,.T 32,.T 33,.T 38],
 .o 40 (.append 4 32) [.T 30,.T 39], .o 3 .move [.T 40]] (some []) [])) (.region [ .o 28 .move [.T 7], .o 29 (.bin .add) [.T 28,.const (.int .i64 1)],
 .o 7 .move [.T 29]] none [])))
def s29_l1 : SCode :=
 (.seq (.seq (.region [ .o 8 .move [.t 4], .o 9 (.fieldAddr 2) [.t 1], .o 10 (.loadF 0 false 1 false) [.T 9], .o 11 (.len .sl) [.T 10],
 .o 12 (.bin .lss) [.T 8,.T 11]] none []) (.cond (.T 12) [] .skip [1,4] (.exit 0))) (.seq (.block 1 (.seq (.region [ .o 15 (.fieldAddr 2) [.t 1],
 .o 16 (.loadF 0 false 1 false) [.T 15], .o 17 .move [.t 4], .o 18 (.indexAddr 7) [.T 16,.T 17], .o 19 (.load true 7 false) [.T 18],
 .o 5 (.allocF 1 [.int .i64 0,.nilSl,.bool false,.int .i64 0,.int .i64 0,.int .i64 0,.nilSl]) [], .n (.storeF 1 7) [.t 5,.T 19]] none []) (.seq (.region [
 .o 20 (.loadF 0 true 5 false) [.t 1], .o 21 .move [.t 4], .o 22 (.call 30) [.T 20,.T 21], .o 6 .move [.T 22]] none []) (.seq (.region [
 .o 7 .move [.const (.int .i64 0)]] none []) (.block 2 (.loop s29_l0)))))) (.region [ .o 13 .move [.T 4], .o 14 (.bin .add) [.T 13,.const (.int .i64 1)],
 .o 4 .move [.T 14]] none [])))
def s29 : SFunc := { fid := 29,mode := .pure,nparams := 1,nboxes := 2,clr := [],results := [.tmp 2 true],body :=
 (.seq (.region [ .o 1 (.boxF 0 5) [.T 0], .o 2 .move [.const .nilSl]] none [2]) (.seq (.region [ .o 3 .move [.const .nilSl]] none []) (.seq (.seq (.region [
 .o 4 .move [.const (.int .i64 0)]] none []) (.block 0 (.loop s29_l1))) (.seq (.region [ .o 41 .move [.T 3], .o 2 .move [.T 41]] none []) .ret)))) }

/-- runrig/runrigref19.vars -/
def s30_l0 : SCode :=
 (.seq (.seq (.region [ .o 7 .move [.t 6], .o 8 .move [.t 1], .o 9 (.bin .lss) [.T 7,.T 8]] none []) (.cond (.T 9) [] .skip [1,2,6] (.exit 0))) (.seq (.block 1
 (.region [ .o 12 .move [.T 5], .o 13 (.fieldAddr 2) [.t 2], .o 14 (.loadF 0 false 1 false) [.T 13], .o 15 .move [.t 6], .o 16 (.indexAddr 7) [.T 14,.T 15],
 .o 17 (.fieldAddr 1) [.T 16], .o 18 (.load false 1 false) [.T 17], .o 19 (.len .sl) [.T 18], .o 20 (.bin .add) [.T 12,.T 19], .o 5 .move [.T 20]] none []))
 (.region [ .o 10 .move [.T 6], .o 11 (.bin .add) [.T 10,.const (.int .i64 1)], .o 6 .move [.T 11]] none [])))
def s30 : SFunc := { fid := 30,mode := .pure,nparams := 2,nboxes := 1,clr := [],results := [.tmp 4 false],body :=
 (.seq (.region [ .o 2 (.boxF 0 5) [.T 0], .o 4 .move [.const (.int .i64 0)]] none [4]) (.seq (.region [ .o 5 .move [.const (.int .i64 0)]] none []) (.seq
 (.seq (.region [ .o 6 .move [.const (.int .i64 0)]] none []) (.block 0 (.loop s30_l0))) (.seq (.region [ .o 21 .move [.T 5], .o 4 .move [.T 21]] none [])
 .ret)))) }

/-- runrig/runrigref2.Tokens -/
def s31_l0 : SCode :=
 (.seq (.seq (.region [ .o 14 .move [.t 5], .o 15 .move [.t 0], .o 16 (.len .str) [.T 15], .o 17 (.bin .lss) [.T 14,.T 16]] none []) (.cond (.T 17) []
 .skip [5] (.exit 0))) (.block 1 (.seq (.region [ .o 19 .move [.t 0], .o 20 .move [.t 5], .o 21 (.call 65) [.T 19,.T 20], .o 18 .move [.T 21],
 .o 22 (.extract 0) [.t 18], .o 23 (.extract 1) [.T 18], .o 6 (.allocF 1 [.int .i64 0,.str [],.int .i64 0,.int .i64 0]) [], .n (.storeF 1 4) [.t 6,.T 22],
 .o 7 .move [.T 23]] none []) (.seq (.seq (.region [ .o 24 .move [.t 7], .o 25 (.bin .eql) [.T 24,.const (.int .i64 0)]] none []) (.cond (.T 25) [0,4,6,7]
 (.seq (.region [ .o 26 .move [.T 5], .o 27 (.build [.int .i64 0,.int .i64 0] [(0,1),(1,1)]) [.const (.int .i64 1),.T 26], .o 2 .move [.const .nilSl],
 .n (.storeF 0 2) [.t 3,.T 27]] none []) .ret) [] .skip)) (.seq (.region [ .o 28 .move [.T 4], .o 29 (.loadF 1 true 4 false) [.T 6],
 .o 30 (.lit 4 1 [.int .i64 0,.str [],.int .i64 0,.int .i64 0] [0]) [.T 29], .o 31 (.append 4 40) [.T 28,.T 30], .o 4 .move [.T 31]] none []) (.region [
 .o 32 .move [.t 0], .o 33 .move [.T 5], .o 34 .move [.T 7], .o 35 (.bin .add) [.T 33,.T 34], .o 36 (.call 64) [.T 32,.T 35], .o 5 .move [.T 36]] none []))))))
def s31 : SFunc := { fid := 31,mode := .pure,nparams := 1,nboxes := 2,clr := [],results := [.tmp 2 true,.box 3 0 2 true],body :=
 (.seq (.region [ .o 2 .move [.const .nilSl], .o 3 (.allocF 0 [.int .i64 0,.int .i64 0]) []] none [2]) (.seq (.seq (.region [ .o 8 .move [.t 0],
 .o 9 (.len .str) [.T 8], .o 10 (.bin .gtr) [.T 9,.const (.int .i64 6000)]] none []) (.cond (.T 10) [0] (.seq (.region [
 .o 11 (.build [.int .i64 0,.int .i64 0] [(0,1)]) [.const (.int .i64 4)], .o 2 .move [.const .nilSl], .n (.storeF 0 2) [.t 3,.T 11]] none []) .ret) [] .skip))
 (.seq (.region [ .o 4 .move [.const .nilSl]] none []) (.seq (.region [ .o 12 .move [.t 0], .o 13 (.call 64) [.T 12,.const (.int .i64 0)],
 .o 5 .move [.T 13]] none []) (.seq (.block 0 (.loop s31_l0)) (.seq (.region [ .o 37 .move [.T 4], .o 38 .move [.T 0], .o 39 (.len .str) [.T 38],
 .o 40 (.build [.int .i64 0,.str [],.int .i64 0,.int .i64 0] [(0,1),(3,1)]) [.const (.int .i64 0),.T 39],
 .o 41 (.lit 4 1 [.int .i64 0,.str [],.int .i64 0,.int .i64 0] [0]) [.T 40], .o 42 (.append 4 40) [.T 37,.T 41],
 .o 43 (.build [.int .i64 0,.int .i64 0] []) [], .o 2 .move [.T 42], .n (.storeF 0 2) [.t 3,.T 43]] none []) .ret)))))) }

/-- (*runrig/runrigref3.reader).ok -/

def s32 : SFunc := { fid := 32,mode := .scp,nparams := 1,nboxes := 0,clr := [],results := [.tmp 2 false],body :=
 (.seq (.region [ .o 2 .move [.const (.bool false)]] none [2]) (.seq (.region [ .o 3 .move [.T 0], .o 4 .nilCheck [.T 3], .o 5 (.fieldAddr 3) [.T 4],
 .o 6 (.fieldAddr 0) [.T 5], .o 7 (.load false 1 false) [.T 6], .o 8 (.bin .eql) [.T 7,.const (.int .i64 0)], .o 2 .move [.T 8]] none []) .ret)) }

/-- (*runrig/runrigref3.reader).tok -/

def s33 : SFunc := { fid := 33,mode := .scp,nparams := 1,nboxes := 1,clr := [],results := [.box 2 0 4 true],body :=
 (.seq (.region [ .o 2 (.allocF 0 [.int .i64 0,.str [],.int .i64 0,.int .i64 0]) []] none []) (.seq (.seq (.region [ .o 3 .move [.t 0], .o 4 .nilCheck [.T 3],
 .o 5 (.fieldAddr 1) [.T 4], .o 6 (.load false 1 false) [.T 5], .o 7 (.bin .lss) [.T 6,.const (.int .i64 0)], .o 8 .move [.T 7], .z 9 .move [.t 0] 8,
 .z 10 .nilCheck [.T 9] 8, .z 11 (.fieldAddr 1) [.T 10] 8, .z 12 (.load false 1 false) [.T 11] 8, .z 13 .move [.t 0] 8, .z 14 .nilCheck [.T 13] 8,
 .z 15 (.fieldAddr 0) [.T 14] 8, .z 16 (.load false 1 false) [.T 15] 8, .z 17 (.len .sl) [.T 16] 8, .z 18 (.bin .geq) [.T 12,.T 17] 8,
 .o 19 .pick [.t 8,.const (.bool true),.T 18]] (some []) [8,9,10,11,12,13,14,15,16,17]) (.cond (.T 19) [0] (.seq (.region [
 .o 20 (.build [.int .i64 0,.str [],.int .i64 0,.int .i64 0] [(0,1)]) [.const (.int .i64 0)], .n (.storeF 0 4) [.t 2,.T 20]] none []) .ret) [] .skip)) (.seq
 (.region [ .o 21 .move [.t 0], .o 22 .nilCheck [.T 21], .o 23 (.fieldAddr 0) [.T 22], .o 24 (.load false 1 false) [.T 23], .o 25 .move [.t 0],
 .o 26 .nilCheck [.T 25], .o 27 (.fieldAddr 1) [.T 26], .o 28 (.load false 1 false) [.T 27], .o 29 (.indexAddr 4) [.T 24,.T 28],
 .o 30 (.load true 4 false) [.T 29], .n (.storeF 0 4) [.t 2,.T 30]] (some []) [0]) .ret))) }

/-- (*runrig/runrigref3.reader).is -/

def s34 : SFunc := { fid := 34,mode := .scp,nparams := 2,nboxes := 1,clr := [],results := [.tmp 4 false],body :=
 (.seq (.region [ .o 4 .move [.const (.bool false)]] none [4]) (.seq (.region [ .o 7 .move [.t 0], .o 8 (.call 33) [.T 7],
 .o 5 (.allocF 0 [.int .i64 0,.str [],.int .i64 0,.int .i64 0]) [], .n (.storeF 0 4) [.t 5,.T 8]] none []) (.seq (.region [
 .o 6 .move [.const (.int .i64 4)]] none []) (.seq (.seq (.region [ .o 9 .move [.t 1], .o 10 .index [.T 9,.const (.int .i64 0)],
 .o 11 (.bin .geq) [.T 10,.const (.int .u8 97)], .o 12 .move [.T 11], .y 13 .move [.t 1] 12, .y 14 .index [.T 13,.const (.int .i64 0)] 12,
 .y 15 (.bin .leq) [.T 14,.const (.int .u8 122)] 12, .o 16 .pick [.T 12,.T 15,.const (.bool false)]] none [13,14]) (.cond (.T 16) [6] (.region [
 .o 6 .move [.const (.int .i64 3)]] none []) [] .skip)) (.seq (.region [ .o 17 .move [.T 0], .o 18 (.call 32) [.T 17], .o 19 .move [.T 18],
 .y 20 (.fieldAddr 0) [.t 5] 19, .y 21 (.loadF 0 false 1 false) [.T 20] 19, .y 22 .move [.T 6] 19, .y 23 (.bin .eql) [.T 21,.T 22] 19,
 .o 24 .pick [.T 19,.T 23,.const (.bool false)], .o 25 .move [.T 24], .y 26 (.fieldAddr 1) [.T 5] 25, .y 27 (.loadF 0 false 1 false) [.T 26] 25,
 .y 28 .move [.T 1] 25, .y 29 (.bin .eql) [.T 27,.T 28] 25, .o 30 .pick [.T 25,.T 29,.const (.bool false)], .o 4 .move [.T 30]] none [1,5,6,20,21,22,26,27,28])
 .ret))))) }

/-- (*runrig/runrigref3.reader).fail -/

def s35 : SFunc := { fid := 35,mode := .scp,nparams := 2,nboxes := 0,clr := [],results := [],body :=
 (.seq (.region [ .o 4 .move [.t 0], .o 5 (.call 32) [.T 4]] none []) (.cond (.T 5) [] (.region [ .o 6 .move [.t 0], .o 7 .move [.T 1], .o 8 .move [.T 0],
 .o 9 (.call 33) [.T 8], .o 10 (.field 3 1 false) [.T 9], .o 11 (.build [.int .i64 0,.int .i64 0] [(0,1),(1,1)]) [.T 7,.T 10], .o 12 .nilCheck [.T 6],
 .o 13 (.fieldAddr 3) [.T 12], .n (.store 2) [.T 13,.T 11]] none []) [0,1] .skip)) }

/-- (*runrig/runrigref3.reader).record -/
def s36_l0 : SCode :=
 (.seq (.seq (.region [ .o 13 .move [.t 0], .o 14 (.call 32) [.T 13], .o 15 .move [.T 14], .y 16 .move [.t 0] 15,
 .y 17 (.call 34) [.T 16,.const (.str [125])] 15, .y 18 (.un .not) [.T 17] 15, .o 19 .pick [.T 15,.T 18,.const (.bool false)]] none [16,17]) (.cond (.T 19) []
 .skip [] (.exit 0))) (.block 1 (.seq (.seq (.region [ .o 20 .move [.t 0], .o 21 (.call 33) [.T 20], .o 22 (.field 0 1 false) [.T 21],
 .o 23 (.bin .eql) [.T 22,.const (.int .i64 1)], .o 24 .move [.T 23], .y 25 (.fieldAddr 1) [.t 3] 24, .y 26 (.loadF 1 false 1 false) [.T 25] 24,
 .y 27 (.len .sl) [.T 26] 24, .y 28 (.bin .eql) [.T 27,.const (.int .i64 8)] 24, .o 29 .pick [.T 24,.T 28,.const (.bool false)]] none [25,26,27])
 (.cond (.T 29) [] (.seq (.region [ .o 30 .move [.t 0], .o 31 (.call 35) [.T 30,.const (.int .i64 4)]] none [31]) (.exit 0)) [] .skip)) (.seq (.region [
 .o 32 (.fieldAddr 1) [.t 3], .o 33 (.loadF 1 false 1 true) [.T 32], .o 34 .move [.t 0], .o 35 (.call 37) [.T 34],
 .o 36 (.lit 4 1 [.str [],.str [],.int .i64 0,.int .i64 0] [0]) [.T 35], .o 37 (.append 4 48) [.T 33,.T 36], .o 38 (.fieldAddr 1) [.t 3],
 .n (.storeF 1 1) [.T 38,.T 37]] (some []) []) (.region [ .o 39 .move [.t 0], .o 40 (.call 38) [.T 39,.const (.str [59])]] none [40])))))
def s36 : SFunc := { fid := 36,mode := .scp,nparams := 1,nboxes := 2,clr := [],results := [.box 2 0 3 true],body :=
 (.seq (.region [ .o 2 (.allocF 0 [.str [],.nilSl,.int .i64 0]) []] none []) (.seq (.region [ .o 4 .move [.t 0], .o 5 (.call 33) [.T 4],
 .o 6 (.field 3 1 false) [.T 5], .o 7 (.build [.str [],.nilSl,.int .i64 0] [(2,1)]) [.T 6], .o 3 (.allocF 1 [.str [],.nilSl,.int .i64 0]) [],
 .n (.storeF 1 3) [.t 3,.T 7]] none []) (.seq (.region [ .o 8 .move [.t 0], .o 9 (.call 66) [.T 8], .o 10 (.fieldAddr 0) [.t 3],
 .n (.storeF 1 1) [.T 10,.T 9]] none []) (.seq (.region [ .o 11 .move [.t 0], .o 12 (.call 38) [.T 11,.const (.str [123])]] none [12]) (.seq (.block 0
 (.loop s36_l0)) (.seq (.region [ .o 41 .move [.T 0], .o 42 (.call 38) [.T 41,.const (.str [125])]] none [42]) (.seq (.region [
 .o 43 (.loadF 1 true 3 false) [.T 3], .n (.storeF 0 3) [.t 2,.T 43]] none []) .ret))))))) }

/-- (*runrig/runrigref3.reader).param -/

def s37 : SFunc := { fid := 37,mode := .scp,nparams := 1,nboxes := 2,clr := [],results := [.box 2 0 4 true],body :=
 (.seq (.region [ .o 2 (.allocF 0 [.str [],.str [],.int .i64 0,.int .i64 0]) []] none []) (.seq (.region [ .o 4 .move [.t 0], .o 5 (.call 33) [.T 4],
 .o 6 (.field 3 1 false) [.T 5], .o 7 (.build [.str [],.str [],.int .i64 0,.int .i64 0] [(3,1)]) [.T 6],
 .o 3 (.allocF 1 [.str [],.str [],.int .i64 0,.int .i64 0]) [], .n (.storeF 1 4) [.t 3,.T 7]] none []) (.seq (.region [ .o 8 .move [.t 0],
 .o 9 (.call 66) [.T 8], .o 10 (.fieldAddr 0) [.t 3], .n (.storeF 1 1) [.T 10,.T 9]] none []) (.seq (.region [ .o 11 .move [.t 0],
 .o 12 (.call 38) [.T 11,.const (.str [58])]] none [12]) (.seq (.region [ .o 13 .move [.T 0], .o 14 (.call 67) [.T 13], .o 15 (.fieldAddr 1) [.t 3],
 .n (.storeF 1 2) [.T 15,.T 14]] none []) (.seq (.region [ .o 16 (.loadF 1 true 4 false) [.T 3], .n (.storeF 0 4) [.t 2,.T 16]] none []) .ret)))))) }

/-- (*runrig/runrigref3.reader).take -/

def s38 : SFunc := { fid := 38,mode := .scp,nparams := 2,nboxes := 0,clr := [],results := [],body :=
 (.seq (.seq (.region [ .o 4 .move [.t 0], .o 5 .move [.T 1], .o 6 (.call 34) [.T 4,.T 5], .o 7 (.un .not) [.T 6]] none []) (.cond (.T 7) [] (.seq (.region [
 .o 8 .move [.T 0], .o 9 (.call 35) [.T 8,.const (.int .i64 2)]] none [9]) .ret) [] .skip)) (.region [ .o 10 .move [.T 0], .o 11 .nilCheck [.t 10],
 .o 12 (.fieldAddr 1) [.T 11], .o 13 (.load false 1 false) [.T 12], .o 14 (.bin .add) [.T 13,.const (.int .i64 1)], .o 15 .nilCheck [.T 10],
 .o 16 (.fieldAddr 1) [.T 15], .n (.store 1) [.T 16,.T 14]] none [])) }

/-- (*runrig/runrigref3.reader).function -/
def s39_l0 : SCode :=
 (.seq (.seq (.region [ .o 13 .move [.t 0], .o 14 (.call 32) [.T 13], .o 15 .move [.T 14], .y 16 .move [.t 0] 15,
 .y 17 (.call 34) [.T 16,.const (.str [41])] 15, .y 18 (.un .not) [.T 17] 15, .o 19 .pick [.T 15,.T 18,.const (.bool false)]] none [16,17]) (.cond (.T 19) []
 .skip [] (.exit 0))) (.block 1 (.seq (.seq (.region [ .o 20 .move [.t 0], .o 21 (.call 33) [.T 20], .o 22 (.field 0 1 false) [.T 21],
 .o 23 (.bin .eql) [.T 22,.const (.int .i64 1)], .o 24 .move [.T 23], .y 25 (.fieldAddr 1) [.t 3] 24, .y 26 (.loadF 1 false 1 false) [.T 25] 24,
 .y 27 (.len .sl) [.T 26] 24, .y 28 (.bin .eql) [.T 27,.const (.int .i64 6)] 24, .o 29 .pick [.T 24,.T 28,.const (.bool false)]] none [25,26,27])
 (.cond (.T 29) [] (.seq (.region [ .o 30 .move [.t 0], .o 31 (.call 35) [.T 30,.const (.int .i64 4)]] none [31]) (.exit 0)) [] .skip)) (.seq (.region [
 .o 32 (.fieldAddr 1) [.t 3], .o 33 (.loadF 1 false 1 true) [.T 32], .o 34 .move [.t 0], .o 35 (.call 37) [.T 34],
 .o 36 (.lit 4 1 [.str [],.str [],.int .i64 0,.int .i64 0] [0]) [.T 35], .o 37 (.append 4 48) [.T 33,.T 36], .o 38 (.fieldAddr 1) [.t 3],
 .n (.storeF 1 1) [.T 38,.T 37]] (some []) []) (.seq (.region [ .o 39 .move [.t 0], .o 40 (.call 34) [.T 39,.const (.str [41])],
 .o 41 (.un .not) [.T 40]] none []) (.cond (.T 41) [] (.seq (.region [ .o 42 .move [.t 0], .o 43 (.call 38) [.T 42,.const (.str [44])]] none [43]) (.seq
 (.region [ .o 44 .move [.t 0], .o 45 (.call 34) [.T 44,.const (.str [41])]] none []) (.cond (.T 45) [] (.region [ .o 46 .move [.t 0],
 .o 47 (.call 35) [.T 46,.const (.int .i64 2)]] none [47]) [] .skip))) [] .skip))))))
def s39 : SFunc := { fid := 39,mode := .scp,nparams := 1,nboxes := 2,clr := [],results := [.box 2 0 7 true],body :=
 (.seq (.region [ .o 2 (.allocF 0 [.str [],.nilSl,.bool false,.str [],.int .i64 0,.nilSl,.int .i64 0]) []] none []) (.seq (.region [ .o 4 .move [.t 0],
 .o 5 (.call 33) [.T 4], .o 6 (.field 3 1 false) [.T 5], .o 7 (.build [.str [],.nilSl,.bool false,.str [],.int .i64 0,.nilSl,.int .i64 0] [(6,1)]) [.T 6],
 .o 3 (.allocF 1 [.str [],.nilSl,.bool false,.str [],.int .i64 0,.nilSl,.int .i64 0]) [], .n (.storeF 1 7) [.t 3,.T 7]] none []) (.seq (.region [
 .o 8 .move [.t 0], .o 9 (.call 66) [.T 8], .o 10 (.fieldAddr 0) [.t 3], .n (.storeF 1 1) [.T 10,.T 9]] none []) (.seq (.region [ .o 11 .move [.t 0],
 .o 12 (.call 38) [.T 11,.const (.str [40])]] none [12]) (.seq (.block 0 (.loop s39_l0)) (.seq (.region [ .o 48 .move [.t 0],
 .o 49 (.call 38) [.T 48,.const (.str [41])]] none [49]) (.seq (.seq (.region [ .o 50 .move [.t 0], .o 51 (.call 34) [.T 50,.const (.str [58])]] none [])
 (.cond (.T 51) [] (.seq (.region [ .o 52 .move [.t 0], .o 53 .nilCheck [.t 52], .o 54 (.fieldAddr 1) [.T 53], .o 55 (.load false 1 false) [.T 54],
 .o 56 (.bin .add) [.T 55,.const (.int .i64 1)], .o 57 .nilCheck [.T 52], .o 58 (.fieldAddr 1) [.T 57], .n (.store 1) [.T 58,.T 56]] none []) (.seq (.region [
 .o 59 (.fieldAddr 2) [.t 3], .n (.storeF 1 1) [.T 59,.const (.bool true)]] none []) (.region [ .o 60 .move [.t 0], .o 61 (.call 67) [.T 60],
 .o 62 (.fieldAddr 3) [.t 3], .n (.storeF 1 2) [.T 62,.T 61]] none []))) [] .skip)) (.seq (.region [ .o 63 .move [.T 0], .o 64 (.call 68) [.T 63],
 .o 65 (.fieldAddr 5) [.t 3], .n (.storeF 1 1) [.T 65,.T 64]] none []) (.seq (.region [ .o 66 (.loadF 1 true 7 false) [.T 3],
 .n (.storeF 0 7) [.t 2,.T 66]] none []) .ret))))))))) }

/-- runrig/runrigref7.Check -/
def s40_l0 : SCode :=
 (.seq (.seq (.region [ .o 22 .move [.t 7], .o 23 (.fieldAddr 2) [.t 1], .o 24 (.loadF 0 false 1 false) [.T 23], .o 25 (.len .sl) [.T 24],
 .o 26 (.bin .lss) [.T 22,.T 25]] none []) (.cond (.T 26) [] .skip [1,4,7] (.exit 0))) (.seq (.block 1 (.seq (.region [ .o 29 (.loadF 3 true 4 false) [.t 4],
 .o 30 (.loadF 0 true 3 false) [.t 1], .o 31 (.call 70) [.T 30], .o 32 (.fieldAddr 2) [.t 4], .o 33 (.loadF 3 false 1 false) [.T 32], .o 34 .move [.t 7],
 .o 35 (.indexAddr 6) [.T 33,.T 34], .o 36 (.load true 6 false) [.T 35],
 .o 37 (.build [.nilSl,.nilSl,.nilSl,.int .i64 0,.nilSl,.str [],.nilSl,.bool false,.int .i64 0,.int .i64 0,.int .i64 0,.nilSl,.int .i64 0,.int .i64 0] [(0,4),(4,1),(5,6)]) [.T 29,.T 31,.T 36],
 .o 38 (.box 14) [.T 37], .o 8 .move [.T 38]] (some []) []) (.seq (.region [ .o 39 .move [.t 8], .o 40 (.fieldAddr 2) [.t 4],
 .o 41 (.loadF 3 false 1 false) [.T 40], .o 42 .move [.t 7], .o 43 (.indexAddr 6) [.T 41,.T 42], .o 44 (.fieldAddr 1) [.T 43],
 .o 45 (.load false 1 false) [.T 44], .o 46 (.append 4 40) [.const .nilSl,.T 45], .o 47 .nilCheck [.T 39], .o 48 (.fieldAddr 11) [.T 47],
 .n (.store 1) [.T 48,.T 46]] none []) (.seq (.region [ .o 49 .move [.t 8], .o 50 (.fieldAddr 2) [.t 1], .o 51 (.loadF 0 false 1 false) [.T 50],
 .o 52 .move [.t 7], .o 53 (.indexAddr 7) [.T 51,.T 52], .o 54 (.fieldAddr 5) [.T 53], .o 55 (.load false 1 false) [.T 54], .o 56 (.call 71) [.T 49,.T 55],
 .o 9 .move [.T 56]] none []) (.seq (.seq (.region [ .o 57 .move [.t 8], .o 58 (.call 72) [.T 57], .o 59 (.un .not) [.T 58]] none [])
 (.cond (.T 59) [1,4,6,7,9] (.seq (.region [ .o 60 (.build [.nilSl,.nilSl,.nilSl,.int .i64 0,.nilSl] []) [], .o 61 .move [.T 8], .o 62 .nilCheck [.T 61],
 .o 63 (.fieldAddr 12) [.T 62], .o 64 (.load true 2 false) [.T 63], .n (.storeF 1 5) [.t 2,.T 60], .n (.storeF 2 2) [.t 3,.T 64]] (some []) []) .ret) []
 .skip)) (.region [ .o 65 (.fieldAddr 4) [.t 6], .o 66 (.loadF 5 false 1 true) [.T 65], .o 67 .move [.T 8], .o 68 .nilCheck [.T 67],
 .o 69 (.fieldAddr 11) [.T 68], .o 70 (.load false 1 false) [.T 69], .o 71 .move [.T 9], .o 72 (.fieldAddr 2) [.t 1], .o 73 (.loadF 0 false 1 false) [.T 72],
 .o 74 .move [.t 7], .o 75 (.indexAddr 7) [.T 73,.T 74], .o 76 (.fieldAddr 6) [.T 75], .o 77 (.load false 1 false) [.T 76],
 .o 78 (.build [.nilSl,.nilSl,.int .i64 0] [(0,1),(1,1),(2,1)]) [.T 70,.T 71,.T 77], .o 79 (.lit 3 1 [.nilSl,.nilSl,.int .i64 0] [0]) [.T 78],
 .o 80 (.append 3 56) [.T 66,.T 79], .o 81 (.fieldAddr 4) [.t 6], .n (.storeF 5 1) [.T 81,.T 80]] (some []) [])))))) (.region [ .o 27 .move [.T 7],
 .o 28 (.bin .add) [.T 27,.const (.int .i64 1)], .o 7 .move [.T 28]] none [])))
def s40 : SFunc := { fid := 40,mode := .pure,nparams := 1,nboxes := 6,clr := [],results := [.box 2 1 5 true,.box 3 2 2 true],body :=
 (.seq (.region [ .o 1 (.boxF 0 3) [.T 0], .o 2 (.allocF 1 [.nilSl,.nilSl,.nilSl,.int .i64 0,.nilSl]) [],
 .o 3 (.allocF 2 [.int .i64 0,.int .i64 0]) []] none []) (.seq (.region [ .o 11 (.loadF 0 true 3 false) [.t 1], .o 12 (.call 69) [.T 11], .o 10 .move [.T 12],
 .o 13 (.extract 0) [.t 10], .o 14 (.extract 1) [.T 10], .o 4 (.allocF 3 [.nilSl,.nilSl,.nilSl,.int .i64 0]) [], .o 5 (.allocF 4 [.int .i64 0,.int .i64 0]) [],
 .n (.storeF 3 4) [.t 4,.T 13], .n (.storeF 4 2) [.t 5,.T 14]] none []) (.seq (.seq (.region [ .o 15 (.fieldAddr 0) [.t 5],
 .o 16 (.loadF 4 false 1 false) [.T 15], .o 17 (.bin .neq) [.T 16,.const (.int .i64 0)]] none []) (.cond (.T 17) [1,4] (.seq (.region [
 .o 18 (.build [.nilSl,.nilSl,.nilSl,.int .i64 0,.nilSl] []) [], .o 19 (.loadF 4 true 2 false) [.T 5], .n (.storeF 1 5) [.t 2,.T 18],
 .n (.storeF 2 2) [.t 3,.T 19]] (some []) []) .ret) [5] .skip)) (.seq (.region [ .o 20 (.loadF 3 true 4 false) [.t 4],
 .o 21 (.build [.nilSl,.nilSl,.nilSl,.int .i64 0,.nilSl] [(0,4)]) [.T 20], .o 6 (.allocF 5 [.nilSl,.nilSl,.nilSl,.int .i64 0,.nilSl]) [],
 .n (.storeF 5 5) [.t 6,.T 21]] none []) (.seq (.seq (.region [ .o 7 .move [.const (.int .i64 0)]] none []) (.block 0 (.loop s40_l0))) (.seq (.region [
 .o 82 (.loadF 5 true 5 false) [.T 6], .o 83 (.build [.int .i64 0,.int .i64 0] []) [], .n (.storeF 1 5) [.t 2,.T 82], .n (.storeF 2 2) [.t 3,.T 83]] none [])
 .ret)))))) }

/-- runrig/runrigref7.Sure -/
def s41_l0 : SCode :=
 (.seq (.seq (.region [ .o 34 .move [.t 7], .o 35 (.fieldAddr 0) [.t 3], .o 36 (.fieldAddr 2) [.T 35], .o 37 (.loadF 2 false 1 false) [.T 36],
 .o 38 .move [.t 5], .o 39 (.indexAddr 6) [.T 37,.T 38], .o 40 (.fieldAddr 1) [.T 39], .o 41 (.load false 1 false) [.T 40], .o 42 (.len .sl) [.T 41],
 .o 43 (.bin .lss) [.T 34,.T 42]] none []) (.cond (.T 43) [] .skip [7] (.exit 2))) (.seq (.block 3 (.region [ .o 46 .move [.t 6], .o 47 .nilCheck [.T 46],
 .o 48 (.fieldAddr 0) [.T 47], .o 49 (.load false 1 false) [.T 48], .o 50 .move [.t 7], .o 51 (.indexAddr 1) [.T 49,.T 50],
 .n (.store 1) [.T 51,.const (.bool true)]] none [])) (.region [ .o 44 .move [.T 7], .o 45 (.bin .add) [.T 44,.const (.int .i64 1)],
 .o 7 .move [.T 45]] none [])))
def s41_l1 : SCode :=
 (.seq (.seq (.region [ .o 17 .move [.t 5], .o 18 (.fieldAddr 4) [.t 3], .o 19 (.loadF 2 false 1 false) [.T 18], .o 20 (.len .sl) [.T 19],
 .o 21 (.bin .lss) [.T 17,.T 20]] none []) (.cond (.T 21) [] .skip [3,5] (.exit 0))) (.seq (.block 1 (.seq (.region [ .o 24 (.fieldAddr 4) [.t 3],
 .o 25 (.loadF 2 false 1 false) [.T 24], .o 26 .move [.t 5], .o 27 (.indexAddr 3) [.T 25,.T 26], .o 28 (.fieldAddr 0) [.T 27],
 .o 29 (.load false 1 false) [.T 28], .o 30 (.len .sl) [.T 29], .o 31 (.makeSl 1 1 [.bool false] true) [.t 30,.T 30],
 .o 32 (.build [.nilSl,.int .i64 0,.int .i64 0] [(0,1)]) [.T 31], .o 33 (.box 3) [.T 32], .o 6 .move [.T 33]] none []) (.seq (.seq (.region [
 .o 7 .move [.const (.int .i64 0)]] none []) (.block 2 (.loop s41_l0))) (.seq (.region [ .o 52 .move [.t 6], .o 53 (.fieldAddr 4) [.t 3],
 .o 54 (.loadF 2 false 1 false) [.T 53], .o 55 .move [.t 5], .o 56 (.indexAddr 3) [.T 54,.T 55], .o 57 (.fieldAddr 1) [.T 56],
 .o 58 (.load false 1 false) [.T 57], .o 59 (.call 73) [.T 52,.T 58]] none [59]) (.seq (.region [ .o 60 .move [.t 6], .o 61 .nilCheck [.T 60],
 .o 62 (.fieldAddr 1) [.T 61], .o 63 (.fieldAddr 0) [.T 62], .o 64 (.load false 1 false) [.T 63], .o 65 (.bin .neq) [.T 64,.const (.int .i64 0)]] none [])
 (.cond (.T 65) [3,5] (.seq (.region [ .o 66 .move [.T 6], .o 67 .nilCheck [.T 66], .o 68 (.fieldAddr 1) [.T 67], .o 69 (.load true 2 false) [.T 68],
 .n (.storeF 1 2) [.t 2,.T 69]] none []) .ret) [6] .skip)))))) (.region [ .o 22 .move [.T 5], .o 23 (.bin .add) [.T 22,.const (.int .i64 1)],
 .o 5 .move [.T 23]] none [])))
def s41 : SFunc := { fid := 41,mode := .pure,nparams := 1,nboxes := 4,clr := [],results := [.box 2 1 2 true],body :=
 (.seq (.region [ .o 1 (.boxF 0 3) [.T 0], .o 2 (.allocF 1 [.int .i64 0,.int .i64 0]) []] none []) (.seq (.region [ .o 9 (.loadF 0 true 3 false) [.T 1],
 .o 10 (.call 40) [.T 9], .o 8 .move [.T 10], .o 11 (.extract 0) [.t 8], .o 12 (.extract 1) [.T 8],
 .o 3 (.allocF 2 [.nilSl,.nilSl,.nilSl,.int .i64 0,.nilSl]) [], .o 4 (.allocF 3 [.int .i64 0,.int .i64 0]) [], .n (.storeF 2 5) [.t 3,.T 11],
 .n (.storeF 3 2) [.t 4,.T 12]] none []) (.seq (.seq (.region [ .o 13 (.fieldAddr 0) [.t 4], .o 14 (.loadF 3 false 1 false) [.T 13],
 .o 15 (.bin .neq) [.T 14,.const (.int .i64 0)]] none []) (.cond (.T 15) [3] (.seq (.region [ .o 16 (.loadF 3 true 2 false) [.T 4],
 .n (.storeF 1 2) [.t 2,.T 16]] none []) .ret) [4] .skip)) (.seq (.seq (.region [ .o 5 .move [.const (.int .i64 0)]] none []) (.block 0 (.loop s41_l1))) (.seq
 (.region [ .o 70 (.build [.int .i64 0,.int .i64 0] []) [], .n (.storeF 1 2) [.t 2,.T 70]] none []) .ret))))) }

/-- runrig/runrigref13.many -/
def s42_l0 : SCode :=
 (.seq (.seq (.region [ .o 21 .move [.t 3], .o 22 (.fieldAddr 0) [.t 1], .o 23 (.loadF 0 false 1 false) [.T 22], .o 24 (.len .sl) [.T 23],
 .o 25 (.bin .lss) [.T 21,.T 24]] none []) (.cond (.T 25) [] .skip [3] (.exit 0))) (.seq (.block 1 (.seq (.region [ .o 28 (.fieldAddr 0) [.t 1],
 .o 29 (.loadF 0 false 1 false) [.T 28], .o 30 .move [.t 3], .o 31 (.indexAddr 3) [.T 29,.T 30], .o 32 (.fieldAddr 1) [.T 31],
 .o 33 (.load false 1 false) [.T 32], .o 34 (.len .sl) [.T 33], .o 35 (.bin .gtr) [.T 34,.const (.int .i64 8)]] none []) (.cond (.T 35) [1,3] (.seq (.region [
 .o 2 .move [.const (.bool true)]] none []) .ret) [] .skip))) (.region [ .o 26 .move [.T 3], .o 27 (.bin .add) [.T 26,.const (.int .i64 1)],
 .o 3 .move [.T 27]] none [])))
def s42_l1 : SCode :=
 (.seq (.seq (.region [ .o 36 .move [.t 4], .o 37 (.fieldAddr 2) [.t 1], .o 38 (.loadF 0 false 1 false) [.T 37], .o 39 (.len .sl) [.T 38],
 .o 40 (.bin .lss) [.T 36,.T 39]] none []) (.cond (.T 40) [] .skip [1,4] (.exit 2))) (.seq (.block 3 (.seq (.region [ .o 43 (.fieldAddr 2) [.t 1],
 .o 44 (.loadF 0 false 1 false) [.T 43], .o 45 .move [.t 4], .o 46 (.indexAddr 7) [.T 44,.T 45], .o 47 (.fieldAddr 1) [.T 46],
 .o 48 (.load false 1 false) [.T 47], .o 49 (.len .sl) [.T 48], .o 50 (.bin .gtr) [.T 49,.const (.int .i64 6)]] none []) (.cond (.T 50) [1,4] (.seq (.region [
 .o 2 .move [.const (.bool true)]] none []) .ret) [] .skip))) (.region [ .o 41 .move [.T 4], .o 42 (.bin .add) [.T 41,.const (.int .i64 1)],
 .o 4 .move [.T 42]] none [])))
def s42 : SFunc := { fid := 42,mode := .pure,nparams := 1,nboxes := 1,clr := [],results := [.tmp 2 false],body :=
 (.seq (.region [ .o 1 (.boxF 0 3) [.T 0], .o 2 .move [.const (.bool false)]] none [2]) (.seq (.seq (.region [ .o 5 (.fieldAddr 0) [.t 1],
 .o 6 (.loadF 0 false 1 false) [.T 5], .o 7 (.len .sl) [.T 6], .o 8 (.bin .gtr) [.T 7,.const (.int .i64 12)], .o 9 .move [.T 8], .z 10 (.fieldAddr 1) [.t 1] 9,
 .z 11 (.loadF 0 false 1 false) [.T 10] 9, .z 12 (.len .sl) [.T 11] 9, .z 13 (.bin .gtr) [.T 12,.const (.int .i64 8)] 9,
 .o 14 .pick [.T 9,.const (.bool true),.T 13], .o 15 .move [.T 14], .z 16 (.fieldAddr 2) [.t 1] 15, .z 17 (.loadF 0 false 1 false) [.T 16] 15,
 .z 18 (.len .sl) [.T 17] 15, .z 19 (.bin .gtr) [.T 18,.const (.int .i64 16)] 15, .o 20 .pick [.T 15,.const (.bool true),.T 19]] none [10,11,12,16,17,18])
 (.cond (.T 20) [1] (.seq (.region [ .o 2 .move [.const (.bool true)]] none []) .ret) [] .skip)) (.seq (.seq (.region [
 .o 3 .move [.const (.int .i64 0)]] none []) (.block 0 (.loop s42_l0))) (.seq (.seq (.region [ .o 4 .move [.const (.int .i64 0)]] none []) (.block 2
 (.loop s42_l1))) (.seq (.region [ .o 2 .move [.const (.bool false)]] none []) .ret))))) }

/-- (*runrig/runrigref13.maker).temp -/

def s43 : SFunc := { fid := 43,mode := .scp,nparams := 2,nboxes := 1,clr := [],results := [.tmp 4 false],body :=
 (.seq (.region [ .o 3 (.boxF 0 3) [.T 1], .o 4 .move [.const (.int .i64 0)]] none [4]) (.seq (.region [ .o 5 .move [.t 0], .o 6 .move [.t 0],
 .o 7 .nilCheck [.T 6], .o 8 (.fieldAddr 6) [.T 7], .o 9 (.fieldAddr 1) [.T 8], .o 10 (.load false 1 true) [.T 9], .o 11 (.loadF 0 true 3 false) [.T 3],
 .o 12 (.lit 3 1 [.int .i64 0,.int .i64 0,.int .i64 0] [0]) [.T 11], .o 13 (.append 3 24) [.T 10,.T 12], .o 14 .nilCheck [.T 5], .o 15 (.fieldAddr 6) [.T 14],
 .o 16 (.fieldAddr 1) [.T 15], .n (.store 1) [.T 16,.T 13]] (some []) []) (.seq (.region [ .o 17 .move [.T 0], .o 18 .nilCheck [.T 17],
 .o 19 (.fieldAddr 6) [.T 18], .o 20 (.fieldAddr 1) [.T 19], .o 21 (.load false 1 false) [.T 20], .o 22 (.len .sl) [.T 21],
 .o 23 (.bin .sub) [.T 22,.const (.int .i64 1)], .o 4 .move [.T 23]] none []) .ret))) }

/-- (*runrig/runrigref13.maker).stmts -/
def s44_l0 : SCode :=
 (.seq (.seq (.region [ .o 5 .move [.t 4], .o 6 .move [.t 1], .o 7 (.len .sl) [.T 6], .o 8 (.bin .lss) [.T 5,.T 7]] none []) (.cond (.T 8) [] .skip [0,1,4]
 (.exit 0))) (.seq (.block 1 (.region [ .o 11 .move [.t 0], .o 12 .move [.t 1], .o 13 .move [.t 4], .o 14 (.indexAddr 9) [.T 12,.T 13],
 .o 15 (.load true 9 false) [.T 14], .o 16 (.call 74) [.T 11,.T 15]] none [16])) (.region [ .o 9 .move [.T 4], .o 10 (.bin .add) [.T 9,.const (.int .i64 1)],
 .o 4 .move [.T 10]] none [])))
def s44 : SFunc := { fid := 44,mode := .scp,nparams := 2,nboxes := 0,clr := [],results := [],body :=
 (.seq (.region [ .o 4 .move [.const (.int .i64 0)]] none []) (.block 0 (.loop s44_l0))) }

/-- (*runrig/runrigref13.maker).end -/

def s45 : SFunc := { fid := 45,mode := .scp,nparams := 1,nboxes := 0,clr := [],results := [],body :=
 (.seq (.seq (.region [ .o 3 .move [.t 0], .o 4 .nilCheck [.T 3], .o 5 (.fieldAddr 6) [.T 4], .o 6 (.fieldAddr 2) [.T 5], .o 7 (.load false 1 false) [.T 6],
 .o 8 (.un .not) [.T 7]] none []) (.cond (.T 8) [] (.seq (.region [ .o 9 .move [.T 0],
 .o 10 (.build [.int .i64 0,.int .i64 0,.int .i64 0,.int .i64 0,.int .i64 0,.nilSl] [(0,1),(1,1)]) [.const (.int .i64 18),.const (.int .i64 (-1))],
 .o 11 (.call 75) [.T 9,.T 10]] none [11]) .ret) [] .skip)) (.seq (.region [ .o 12 .move [.t 0], .o 13 .move [.t 0], .o 14 .nilCheck [.T 13],
 .o 15 (.fieldAddr 6) [.T 14], .o 16 (.fieldAddr 3) [.T 15], .o 17 (.load true 3 false) [.T 16], .o 18 (.call 43) [.T 12,.T 17], .o 2 .move [.T 18]] none [])
 (.seq (.seq (.region [ .o 19 .move [.t 0], .o 20 .nilCheck [.T 19], .o 21 (.fieldAddr 6) [.T 20], .o 22 (.fieldAddr 3) [.T 21],
 .o 23 (.load true 3 false) [.T 22], .o 24 (.call 17) [.T 23]] none []) (.cond (.T 24) [] (.region [ .o 25 .move [.t 0], .o 26 .move [.t 2],
 .o 27 (.build [.int .i64 0,.int .i64 0,.int .i64 0,.int .i64 0,.int .i64 0,.nilSl] [(0,1),(1,1)]) [.const (.int .i64 2),.T 26],
 .o 28 (.call 75) [.T 25,.T 27]] none [28]) [] (.region [ .o 29 .move [.t 0], .o 30 .move [.t 2],
 .o 31 (.build [.int .i64 0,.int .i64 0,.int .i64 0,.int .i64 0,.int .i64 0,.nilSl] [(0,1),(1,1)]) [.const (.int .i64 1),.T 30],
 .o 32 (.call 75) [.T 29,.T 31]] none [32]))) (.region [ .o 33 .move [.T 0], .o 34 .move [.T 2],
 .o 35 (.build [.int .i64 0,.int .i64 0,.int .i64 0,.int .i64 0,.int .i64 0,.nilSl] [(0,1),(1,1)]) [.const (.int .i64 18),.T 34],
 .o 36 (.call 75) [.T 33,.T 35]] none [36])))) }

/-- runrig/runrigref12.types -/
def s46_l0 : SCode :=
 (.seq (.seq (.region [ .o 6 .move [.t 5], .o 7 .move [.t 1], .o 8 (.len .sl) [.T 7], .o 9 (.bin .lss) [.T 6,.T 8]] none []) (.cond (.T 9) [] .skip [1,2,5]
 (.exit 0))) (.seq (.block 1 (.seq (.region [ .o 12 (.loadF 0 true 5 false) [.t 2], .o 13 .move [.t 1], .o 14 .move [.t 5], .o 15 (.indexAddr 3) [.T 13,.T 14],
 .o 16 (.load true 3 false) [.T 15], .o 17 (.call 47) [.T 12,.T 16], .o 18 (.un .not) [.T 17]] (some []) []) (.cond (.T 18) [1,2,5] (.seq (.region [
 .o 4 .move [.const (.bool false)]] none []) .ret) [] .skip))) (.region [ .o 10 .move [.T 5], .o 11 (.bin .add) [.T 10,.const (.int .i64 1)],
 .o 5 .move [.T 11]] none [])))
def s46 : SFunc := { fid := 46,mode := .pure,nparams := 2,nboxes := 1,clr := [],results := [.tmp 4 false],body :=
 (.seq (.region [ .o 2 (.boxF 0 5) [.T 0], .o 4 .move [.const (.bool false)]] none [4]) (.seq (.seq (.region [ .o 5 .move [.const (.int .i64 0)]] none [])
 (.block 0 (.loop s46_l0))) (.seq (.region [ .o 4 .move [.const (.bool true)]] none []) .ret))) }

/-- runrig/runrigref12.may -/

def s47 : SFunc := { fid := 47,mode := .pure,nparams := 2,nboxes := 2,clr := [],results := [.tmp 4 false],body :=
 (.seq (.region [ .o 2 (.boxF 0 5) [.T 0], .o 3 (.boxF 1 3) [.T 1], .o 4 .move [.const (.bool false)]] none [4]) (.seq (.seq (.region [
 .o 5 (.fieldAddr 2) [.t 3], .o 6 (.loadF 1 false 1 false) [.T 5], .o 7 (.bin .lss) [.T 6,.const (.int .i64 0)], .o 8 .move [.T 7],
 .z 9 (.fieldAddr 2) [.t 3] 8, .z 10 (.loadF 1 false 1 false) [.T 9] 8, .z 11 (.bin .gtr) [.T 10,.const (.int .i64 3)] 8,
 .o 12 .pick [.T 8,.const (.bool true),.T 11]] none [9,10]) (.cond (.T 12) [2,3] (.seq (.region [ .o 4 .move [.const (.bool false)]] none []) .ret) [] .skip))
 (.seq (.seq (.region [ .o 13 (.fieldAddr 0) [.t 3], .o 14 (.loadF 1 false 1 false) [.T 13]] none []) (.block 0 (.seq (.seq (.region [
 .o 16 (.bin .eql) [.t 14,.const (.int .i64 1)], .o 15 .move [.T 16]] none []) (.cond (.t 15) [] .skip [15] (.region [
 .o 17 (.bin .eql) [.t 14,.const (.int .i64 2)], .o 15 .move [.T 17]] none []))) (.cond (.T 15) [2,14] (.seq (.region [ .o 18 (.fieldAddr 1) [.T 3],
 .o 19 (.loadF 1 false 1 false) [.T 18], .o 20 (.bin .eql) [.T 19,.const (.int .i64 0)], .o 4 .move [.T 20]] none []) .ret) [] (.seq (.region [
 .o 22 (.bin .eql) [.T 14,.const (.int .i64 3)], .o 21 .move [.T 22]] none []) (.cond (.T 21) [] (.seq (.region [ .o 23 (.fieldAddr 1) [.t 3],
 .o 24 (.loadF 1 false 1 false) [.T 23], .o 25 (.bin .geq) [.T 24,.const (.int .i64 0)], .o 26 .move [.T 25], .y 27 (.fieldAddr 1) [.T 3] 26,
 .y 28 (.loadF 1 false 1 false) [.T 27] 26, .y 29 (.fieldAddr 0) [.T 2] 26, .y 30 (.loadF 0 false 1 false) [.T 29] 26, .y 31 (.len .sl) [.T 30] 26,
 .y 32 (.bin .lss) [.T 28,.T 31] 26, .o 33 .pick [.T 26,.T 32,.const (.bool false)], .o 4 .move [.T 33]] none [2,3,27,28,29,30,31]) .ret) [2,3] .skip))))))
 (.seq (.region [ .o 4 .move [.const (.bool false)]] none []) .ret)))) }

/-- runrig/runrigref12.Step -/

def s48 : SFunc := { fid := 48,mode := .pure,nparams := 3,nboxes := 7,clr := [],results := [.tmp 6 false],body :=
 (.seq (.region [ .o 3 (.boxF 0 5) [.T 0], .o 5 (.boxF 1 6) [.T 2], .o 6 .move [.const (.bool false)]] none [6]) (.seq (.seq (.region [ .o 12 .move [.t 1],
 .o 13 (.bin .lss) [.T 12,.const (.int .i64 0)], .o 14 .move [.T 13], .z 15 .move [.t 1] 14, .z 16 (.fieldAddr 2) [.t 3] 14,
 .z 17 (.loadF 0 false 1 false) [.T 16] 14, .z 18 (.len .sl) [.T 17] 14, .z 19 (.bin .geq) [.T 15,.T 18] 14, .o 20 .pick [.T 14,.const (.bool true),.T 19],
 .o 21 .move [.T 20], .z 22 (.loadF 1 true 6 false) [.t 5] 21, .z 23 (.call 76) [.T 22] 21, .z 24 (.un .not) [.T 23] 21,
 .o 25 .pick [.T 21,.const (.bool true),.T 24]] none [15,16,17,18,22,23]) (.cond (.T 25) [1,3,5] (.seq (.region [ .o 6 .move [.const (.bool false)]] none [])
 .ret) [] .skip)) (.seq (.region [ .o 26 (.fieldAddr 2) [.t 3], .o 27 (.loadF 0 false 1 false) [.T 26], .o 28 .move [.t 1], .o 29 (.indexAddr 7) [.T 27,.T 28],
 .o 30 (.load true 7 false) [.T 29], .o 7 (.allocF 2 [.int .i64 0,.nilSl,.bool false,.int .i64 0,.int .i64 0,.int .i64 0,.nilSl]) [],
 .n (.storeF 2 7) [.t 7,.T 30]] none []) (.seq (.region [ .o 31 (.build [.int .i64 0,.int .i64 0,.int .i64 0] []) [],
 .o 8 (.allocF 3 [.int .i64 0,.int .i64 0,.int .i64 0]) [], .n (.storeF 3 3) [.t 8,.T 31]] none []) (.seq (.region [ .o 32 (.loadF 2 true 7 false) [.t 7],
 .o 33 (.fieldAddr 1) [.t 5], .o 34 (.loadF 1 false 1 false) [.T 33], .o 35 (.call 77) [.T 32,.T 34], .o 36 (.loadF 2 true 7 false) [.t 7],
 .o 37 (.fieldAddr 2) [.t 5], .o 38 (.loadF 1 false 1 false) [.T 37], .o 39 (.call 77) [.T 36,.T 38], .o 40 (.loadF 2 true 7 false) [.t 7],
 .o 41 (.fieldAddr 3) [.t 5], .o 42 (.loadF 1 false 1 false) [.T 41], .o 43 (.call 77) [.T 40,.T 42],
 .o 9 (.allocF 4 [.int .i64 0,.int .i64 0,.int .i64 0]) [], .o 10 (.allocF 5 [.int .i64 0,.int .i64 0,.int .i64 0]) [],
 .o 11 (.allocF 6 [.int .i64 0,.int .i64 0,.int .i64 0]) [], .n (.storeF 4 3) [.t 9,.T 35], .n (.storeF 5 3) [.t 10,.T 39],
 .n (.storeF 6 3) [.t 11,.T 43]] (some []) []) (.seq (.seq (.region [ .o 44 (.fieldAddr 0) [.t 5], .o 45 (.loadF 1 false 1 false) [.T 44]] none []) (.block 0
 (.seq (.region [ .o 47 (.bin .eql) [.t 45,.const (.int .i64 1)], .o 46 .move [.T 47]] none []) (.cond (.T 46) [1,3,7,8,10,11,45] (.seq (.region [
 .o 48 (.loadF 4 true 3 false) [.t 9], .o 49 (.call 78) [], .o 50 (.eqv (.flat [.int,.int,.int]) false) [.T 48,.T 49], .o 51 .move [.T 50],
 .z 52 (.loadF 4 true 3 false) [.t 9] 51, .z 53 (.call 79) [] 51, .z 54 (.eqv (.flat [.int,.int,.int]) false) [.T 52,.T 53] 51, .z 55 .move [.T 54] 51,
 .y 56 (.fieldAddr 4) [.t 5] 55, .y 57 (.loadF 1 false 1 false) [.T 56] 55, .y 58 (.bin .eql) [.T 57,.const (.int .i64 0)] 55, .y 59 .move [.T 58] 55,
 .z 60 (.fieldAddr 4) [.t 5] 59, .z 61 (.loadF 1 false 1 false) [.T 60] 59, .z 62 (.bin .eql) [.T 61,.const (.int .i64 1)] 59,
 .y 63 .pick [.t 59,.const (.bool true),.T 62] 55, .z 64 .pick [.t 55,.T 63,.const (.bool false)] 51, .o 65 .pick [.t 51,.const (.bool true),.T 64],
 .o 6 .move [.T 65]] (some []) [5,9,51,52,53,54,55,56,57,58,59,60,61,62,63]) .ret) [] (.seq (.region [ .o 67 (.bin .eql) [.t 45,.const (.int .i64 2)],
 .o 66 .move [.T 67]] none []) (.cond (.T 66) [1,3,5,7,10,11,45] (.seq (.region [ .o 68 (.loadF 4 true 3 false) [.t 9], .o 69 (.loadF 3 true 3 false) [.T 8],
 .o 70 (.eqv (.flat [.int,.int,.int]) true) [.T 68,.T 69], .o 71 .move [.T 70], .y 72 (.loadF 4 true 3 false) [.T 9] 71, .y 73 (.call 17) [.T 72] 71,
 .o 74 .pick [.T 71,.T 73,.const (.bool false)], .o 6 .move [.T 74]] none [9,72]) .ret) [] (.seq (.region [ .o 76 (.bin .eql) [.t 45,.const (.int .i64 3)],
 .o 75 .move [.T 76]] none []) (.cond (.T 75) [1,3,5,7,11,45] (.seq (.region [ .o 77 (.loadF 4 true 3 false) [.t 9], .o 78 (.loadF 3 true 3 false) [.T 8],
 .o 79 (.eqv (.flat [.int,.int,.int]) true) [.T 77,.T 78], .o 80 .move [.T 79], .y 81 (.loadF 4 true 3 false) [.T 9] 80,
 .y 82 (.loadF 5 true 3 false) [.T 10] 80, .y 83 (.eqv (.flat [.int,.int,.int]) false) [.T 81,.T 82] 80, .o 84 .pick [.T 80,.T 83,.const (.bool false)],
 .o 6 .move [.T 84]] none [9,10,81,82]) .ret) [] (.seq (.region [ .o 86 (.bin .eql) [.t 45,.const (.int .i64 4)], .o 85 .move [.T 86]] none [])
 (.cond (.T 85) [1,3,7,8,45] (.seq (.region [ .o 87 (.fieldAddr 4) [.T 5], .o 88 (.loadF 1 false 1 false) [.T 87], .o 89 (.loadF 4 true 3 false) [.T 9],
 .o 90 (.loadF 5 true 3 false) [.T 10], .o 91 (.loadF 6 true 3 false) [.T 11], .o 92 (.call 80) [.T 88,.T 89,.T 90,.T 91], .o 6 .move [.T 92]] none [])
 .ret) [] (.seq (.region [ .o 94 (.bin .eql) [.t 45,.const (.int .i64 5)], .o 93 .move [.T 94]] none []) (.cond (.T 93) [1,3,7,8,11,45] (.seq (.region [
 .o 95 (.fieldAddr 4) [.t 5], .o 96 (.loadF 1 false 1 false) [.T 95], .o 97 (.bin .eql) [.T 96,.const (.int .i64 12)], .o 98 .move [.T 97],
 .y 99 (.loadF 4 true 3 false) [.t 9] 98, .y 100 (.call 78) [] 98, .y 101 (.eqv (.flat [.int,.int,.int]) false) [.T 99,.T 100] 98,
 .o 102 .pick [.t 98,.T 101,.const (.bool false)], .o 103 .move [.T 102], .y 104 (.loadF 5 true 3 false) [.t 10] 103, .y 105 (.call 78) [] 103,
 .y 106 (.eqv (.flat [.int,.int,.int]) false) [.T 104,.T 105] 103, .o 107 .pick [.t 103,.T 106,.const (.bool false)], .o 108 .move [.T 107],
 .z 109 (.fieldAddr 4) [.t 5] 108, .z 110 (.loadF 1 false 1 false) [.T 109] 108, .z 111 (.bin .eql) [.T 110,.const (.int .i64 13)] 108,
 .z 112 .move [.T 111] 108, .y 113 (.loadF 4 true 3 false) [.t 9] 112, .y 114 (.call 79) [] 112,
 .y 115 (.eqv (.flat [.int,.int,.int]) false) [.T 113,.T 114] 112, .z 116 .pick [.t 112,.T 115,.const (.bool false)] 108, .z 117 .move [.T 116] 108,
 .y 118 (.loadF 5 true 3 false) [.t 10] 117, .y 119 (.call 79) [] 117, .y 120 (.eqv (.flat [.int,.int,.int]) false) [.T 118,.T 119] 117,
 .z 121 .pick [.t 117,.T 120,.const (.bool false)] 108, .o 122 .pick [.t 108,.const (.bool true),.T 121],
 .o 6 .move [.T 122]] (some []) [5,9,10,98,99,100,103,104,105,108,109,110,111,112,113,114,115,116,117,118,119,120]) .ret) [] (.seq (.region [
 .o 124 (.bin .eql) [.t 45,.const (.int .i64 6)], .o 123 .move [.T 124]] none []) (.cond (.T 123) [1,7,11,45] (.seq (.region [
 .o 125 (.loadF 4 true 3 false) [.t 9], .o 126 (.loadF 3 true 3 false) [.T 8], .o 127 (.eqv (.flat [.int,.int,.int]) true) [.T 125,.T 126],
 .o 128 .move [.T 127], .y 129 (.loadF 4 true 3 false) [.t 9] 128, .y 130 (.loadF 0 true 5 false) [.T 3] 128, .y 131 (.loadF 5 true 3 false) [.T 10] 128,
 .y 132 (.fieldAddr 3) [.T 5] 128, .y 133 (.loadF 1 false 1 false) [.T 132] 128, .y 134 (.call 81) [.T 130,.T 131,.T 133] 128,
 .y 135 (.eqv (.flat [.int,.int,.int]) false) [.T 129,.T 134] 128, .o 136 .pick [.t 128,.T 135,.const (.bool false)],
 .o 6 .move [.T 136]] (some []) [3,5,9,10,128,129,130,131,132,133,134]) .ret) [] (.seq (.region [ .o 138 (.bin .eql) [.t 45,.const (.int .i64 7)],
 .o 137 .move [.T 138]] none []) (.cond (.T 137) [1,7,11,45] (.seq (.region [ .o 139 (.loadF 5 true 3 false) [.t 10], .o 140 (.loadF 3 true 3 false) [.T 8],
 .o 141 (.eqv (.flat [.int,.int,.int]) true) [.T 139,.T 140], .o 142 .move [.T 141], .y 143 (.loadF 5 true 3 false) [.t 10] 142,
 .y 144 (.loadF 0 true 5 false) [.T 3] 142, .y 145 (.loadF 4 true 3 false) [.T 9] 142, .y 146 (.fieldAddr 3) [.T 5] 142,
 .y 147 (.loadF 1 false 1 false) [.T 146] 142, .y 148 (.call 81) [.T 144,.T 145,.T 147] 142, .y 149 (.eqv (.flat [.int,.int,.int]) false) [.T 143,.T 148] 142,
 .o 150 .pick [.t 142,.T 149,.const (.bool false)], .o 6 .move [.T 150]] (some []) [3,5,9,10,142,143,144,145,146,147,148]) .ret) [] (.seq (.region [
 .o 152 (.bin .eql) [.t 45,.const (.int .i64 8)], .o 151 .move [.T 152]] none []) (.cond (.T 151) [1,3,5,7,45] (.seq (.region [
 .o 153 (.loadF 4 true 3 false) [.t 9], .o 154 (.loadF 3 true 3 false) [.T 8], .o 155 (.eqv (.flat [.int,.int,.int]) true) [.T 153,.T 154],
 .o 156 .move [.T 155], .y 157 (.fieldAddr 2) [.t 10] 156, .y 158 (.loadF 5 false 1 false) [.T 157] 156, .y 159 (.bin .gtr) [.T 158,.const (.int .i64 0)] 156,
 .o 160 .pick [.t 156,.T 159,.const (.bool false)], .o 161 .move [.T 160], .y 162 (.loadF 6 true 3 false) [.T 11] 161, .y 163 (.call 78) [] 161,
 .y 164 (.eqv (.flat [.int,.int,.int]) false) [.T 162,.T 163] 161, .o 165 .pick [.t 161,.T 164,.const (.bool false)], .o 166 .move [.T 165],
 .y 167 (.loadF 4 true 3 false) [.t 9] 166, .y 168 (.loadF 5 true 3 false) [.t 10] 166, .y 169 (.call 82) [.T 168] 166,
 .y 170 (.eqv (.flat [.int,.int,.int]) false) [.T 167,.T 169] 166, .o 171 .pick [.t 166,.T 170,.const (.bool false)],
 .o 6 .move [.T 171]] (some []) [9,10,11,156,157,158,161,162,163,166,167,168,169]) .ret) [] (.seq (.region [ .o 173 (.bin .eql) [.t 45,.const (.int .i64 9)],
 .o 172 .move [.T 173]] none []) (.cond (.T 172) [1,3,5,7,45] (.seq (.region [ .o 174 (.loadF 6 true 3 false) [.t 11], .o 175 (.loadF 3 true 3 false) [.T 8],
 .o 176 (.eqv (.flat [.int,.int,.int]) true) [.T 174,.T 175], .o 177 .move [.T 176], .y 178 (.fieldAddr 2) [.t 9] 177,
 .y 179 (.loadF 4 false 1 false) [.T 178] 177, .y 180 (.bin .gtr) [.T 179,.const (.int .i64 0)] 177, .o 181 .pick [.t 177,.T 180,.const (.bool false)],
 .o 182 .move [.T 181], .y 183 (.loadF 5 true 3 false) [.T 10] 182, .y 184 (.call 78) [] 182, .y 185 (.eqv (.flat [.int,.int,.int]) false) [.T 183,.T 184] 182,
 .o 186 .pick [.t 182,.T 185,.const (.bool false)], .o 187 .move [.T 186], .y 188 (.loadF 6 true 3 false) [.t 11] 187,
 .y 189 (.loadF 4 true 3 false) [.t 9] 187, .y 190 (.call 82) [.T 189] 187, .y 191 (.eqv (.flat [.int,.int,.int]) false) [.T 188,.T 190] 187,
 .o 192 .pick [.t 187,.T 191,.const (.bool false)], .o 6 .move [.T 192]] (some []) [9,10,11,177,178,179,182,183,184,187,188,189,190]) .ret) [11] (.seq
 (.region [ .o 194 (.bin .eql) [.t 45,.const (.int .i64 10)], .o 193 .move [.T 194]] none []) (.cond (.T 193) [1,3,5,7,8,45] (.seq (.region [
 .o 195 (.loadF 4 true 3 false) [.T 9], .o 196 (.call 78) [], .o 197 (.eqv (.flat [.int,.int,.int]) false) [.T 195,.T 196], .o 198 .move [.T 197],
 .y 199 (.fieldAddr 2) [.T 10] 198, .y 200 (.loadF 5 false 1 false) [.T 199] 198, .y 201 (.bin .gtr) [.T 200,.const (.int .i64 0)] 198,
 .o 202 .pick [.t 198,.T 201,.const (.bool false)], .o 6 .move [.T 202]] (some []) [10,198,199,200]) .ret) [] (.seq (.region [
 .o 204 (.bin .eql) [.t 45,.const (.int .i64 11)], .o 203 .move [.T 204]] none []) (.cond (.T 203) [7,10,45] (.seq (.region [
 .o 205 (.loadF 4 true 3 false) [.t 9], .o 206 (.loadF 3 true 3 false) [.T 8], .o 207 (.eqv (.flat [.int,.int,.int]) true) [.T 205,.T 206],
 .o 208 .move [.T 207], .y 209 (.fieldAddr 0) [.t 9] 208, .y 210 (.loadF 4 false 1 false) [.T 209] 208, .y 211 (.bin .eql) [.T 210,.const (.int .i64 3)] 208,
 .o 212 .pick [.T 208,.T 211,.const (.bool false)], .o 213 .move [.T 212], .y 214 (.fieldAddr 2) [.t 9] 213, .y 215 (.loadF 4 false 1 false) [.T 214] 213,
 .y 216 (.bin .eql) [.T 215,.const (.int .i64 0)] 213, .o 217 .pick [.T 213,.T 216,.const (.bool false)], .o 218 .move [.T 217],
 .y 219 (.loadF 0 true 5 false) [.T 3] 218, .y 220 .move [.T 1] 218, .y 221 (.fieldAddr 4) [.T 5] 218, .y 222 (.loadF 1 false 1 false) [.T 221] 218,
 .y 223 (.loadF 4 true 3 false) [.T 9] 218, .y 224 (.call 83) [.T 219,.T 220,.T 222,.T 223] 218, .o 225 .pick [.T 218,.T 224,.const (.bool false)],
 .o 6 .move [.T 225]] none [1,3,5,9,209,210,214,215,219,220,221,222,223]) .ret) [] (.seq (.region [ .o 227 (.bin .eql) [.t 45,.const (.int .i64 12)],
 .o 226 .move [.T 227]] none []) (.cond (.T 226) [7,8,45] (.seq (.region [ .o 228 (.fieldAddr 2) [.t 9], .o 229 (.loadF 4 false 1 false) [.T 228],
 .o 230 (.bin .gtr) [.T 229,.const (.int .i64 0)], .o 231 .move [.T 230], .y 232 (.loadF 5 true 3 false) [.T 10] 231, .y 233 (.call 78) [] 231,
 .y 234 (.eqv (.flat [.int,.int,.int]) false) [.T 232,.T 233] 231, .o 235 .pick [.t 231,.T 234,.const (.bool false)], .o 236 .move [.T 235],
 .y 237 (.loadF 0 true 5 false) [.T 3] 236, .y 238 .move [.T 1] 236, .y 239 (.fieldAddr 4) [.T 5] 236, .y 240 (.loadF 1 false 1 false) [.T 239] 236,
 .y 241 (.loadF 4 true 3 false) [.t 9] 236, .y 242 (.call 83) [.T 237,.T 238,.T 240,.T 241] 236, .o 243 .pick [.t 236,.T 242,.const (.bool false)],
 .o 6 .move [.T 243]] (some []) [1,3,5,9,10,231,232,233,236,237,238,239,240,241]) .ret) [1,10] (.seq (.region [
 .o 245 (.bin .eql) [.t 45,.const (.int .i64 13)], .o 244 .move [.T 245]] none []) (.cond (.T 244) [8,9,45] (.seq (.region [
 .o 246 (.loadF 0 true 5 false) [.T 3], .o 247 (.loadF 2 true 7 false) [.T 7], .o 248 (.loadF 1 true 6 false) [.T 5], .o 249 (.call 84) [.T 246,.T 247,.T 248],
 .o 6 .move [.T 249]] none []) .ret) [] (.seq (.seq (.region [ .o 251 (.bin .eql) [.t 45,.const (.int .i64 14)], .o 250 .move [.T 251]] none [])
 (.cond (.t 250) [] .skip [250] (.region [ .o 252 (.bin .eql) [.t 45,.const (.int .i64 15)], .o 250 .move [.T 252]] none []))) (.cond (.T 250) [3,5,7,8,45]
 (.seq (.region [ .o 253 (.loadF 4 true 3 false) [.T 9], .o 254 (.call 78) [], .o 255 (.eqv (.flat [.int,.int,.int]) false) [.T 253,.T 254],
 .o 6 .move [.T 255]] (some []) []) .ret) [] (.seq (.region [ .o 257 (.bin .eql) [.t 45,.const (.int .i64 16)], .o 256 .move [.T 257]] none [])
 (.cond (.T 256) [3,8,9,45] (.seq (.region [ .o 258 (.fieldAddr 4) [.t 5], .o 259 (.loadF 1 false 1 false) [.T 258],
 .o 260 (.bin .geq) [.T 259,.const (.int .i64 0)], .o 261 .move [.T 260], .y 262 (.fieldAddr 4) [.T 5] 261, .y 263 (.loadF 1 false 1 false) [.T 262] 261,
 .y 264 (.fieldAddr 6) [.T 7] 261, .y 265 (.loadF 2 false 1 false) [.T 264] 261, .y 266 (.len .sl) [.T 265] 261, .y 267 (.bin .lss) [.T 263,.T 266] 261,
 .o 268 .pick [.T 261,.T 267,.const (.bool false)], .o 6 .move [.T 268]] none [5,7,262,263,264,265,266]) .ret) [] (.seq (.region [
 .o 270 (.bin .eql) [.t 45,.const (.int .i64 17)], .o 269 .move [.T 270]] none []) (.cond (.T 269) [3,8,45] (.seq (.region [
 .o 271 (.loadF 4 true 3 false) [.T 9], .o 272 (.call 79) [], .o 273 (.eqv (.flat [.int,.int,.int]) false) [.T 271,.T 272], .o 274 .move [.T 273],
 .y 275 (.fieldAddr 4) [.t 5] 274, .y 276 (.loadF 1 false 1 false) [.T 275] 274, .y 277 (.bin .geq) [.T 276,.const (.int .i64 0)] 274,
 .o 278 .pick [.t 274,.T 277,.const (.bool false)], .o 279 .move [.T 278], .y 280 (.fieldAddr 4) [.t 5] 279, .y 281 (.loadF 1 false 1 false) [.T 280] 279,
 .y 282 (.fieldAddr 6) [.t 7] 279, .y 283 (.loadF 2 false 1 false) [.T 282] 279, .y 284 (.len .sl) [.T 283] 279, .y 285 (.bin .lss) [.T 281,.T 284] 279,
 .o 286 .pick [.t 279,.T 285,.const (.bool false)], .o 287 .move [.T 286], .y 288 (.fieldAddr 3) [.t 5] 287, .y 289 (.loadF 1 false 1 false) [.T 288] 287,
 .y 290 (.bin .geq) [.T 289,.const (.int .i64 0)] 287, .o 291 .pick [.t 287,.T 290,.const (.bool false)], .o 292 .move [.T 291],
 .y 293 (.fieldAddr 3) [.t 5] 292, .y 294 (.loadF 1 false 1 false) [.T 293] 292, .y 295 (.fieldAddr 6) [.t 7] 292,
 .y 296 (.loadF 2 false 1 false) [.T 295] 292, .y 297 (.len .sl) [.T 296] 292, .y 298 (.bin .lss) [.T 294,.T 297] 292,
 .o 299 .pick [.t 292,.T 298,.const (.bool false)],
 .o 6 .move [.T 299]] (some []) [5,7,274,275,276,279,280,281,282,283,284,287,288,289,292,293,294,295,296,297]) .ret) [] (.seq (.region [
 .o 301 (.bin .eql) [.t 45,.const (.int .i64 18)], .o 300 .move [.T 301]] none []) (.cond (.T 300) [3,45] (.seq (.seq (.region [ .o 302 (.fieldAddr 2) [.t 7],
 .o 303 (.loadF 2 false 1 false) [.T 302], .o 304 (.un .not) [.T 303]] none []) (.cond (.T 304) [7,8,9] (.seq (.region [ .o 305 (.fieldAddr 1) [.T 5],
 .o 306 (.loadF 1 false 1 false) [.T 305], .o 307 (.bin .eql) [.T 306,.const (.int .i64 (-1))], .o 6 .move [.T 307]] none []) .ret) [5] .skip)) (.seq
 (.region [ .o 308 (.loadF 4 true 3 false) [.t 9], .o 309 (.loadF 3 true 3 false) [.T 8], .o 310 (.eqv (.flat [.int,.int,.int]) true) [.T 308,.T 309],
 .o 311 .move [.T 310], .y 312 (.loadF 4 true 3 false) [.T 9] 311, .y 313 (.fieldAddr 3) [.T 7] 311, .y 314 (.loadF 2 true 3 false) [.T 313] 311,
 .y 315 (.eqv (.flat [.int,.int,.int]) false) [.T 312,.T 314] 311, .o 316 .pick [.T 311,.T 315,.const (.bool false)],
 .o 6 .move [.T 316]] none [7,9,312,313,314]) .ret)) [7] (.seq (.seq (.region [ .o 318 (.bin .eql) [.t 45,.const (.int .i64 19)],
 .o 317 .move [.T 318]] none []) (.cond (.t 317) [45] .skip [317] (.region [ .o 319 (.bin .eql) [.T 45,.const (.int .i64 20)],
 .o 317 .move [.T 319]] none []))) (.cond (.T 317) [] (.seq (.region [ .o 320 (.loadF 4 true 3 false) [.t 9], .o 321 (.loadF 3 true 3 false) [.T 8],
 .o 322 (.eqv (.flat [.int,.int,.int]) true) [.T 320,.T 321], .o 323 .move [.T 322], .y 324 (.fieldAddr 4) [.t 5] 323,
 .y 325 (.loadF 1 false 1 false) [.T 324] 323, .y 326 (.bin .geq) [.T 325,.const (.int .i64 0)] 323, .o 327 .pick [.t 323,.T 326,.const (.bool false)],
 .o 328 .move [.T 327], .y 329 (.fieldAddr 4) [.t 5] 328, .y 330 (.loadF 1 false 1 false) [.T 329] 328, .y 331 (.fieldAddr 1) [.t 3] 328,
 .y 332 (.loadF 0 false 1 false) [.T 331] 328, .y 333 (.len .sl) [.T 332] 328, .y 334 (.bin .lss) [.T 330,.T 333] 328,
 .o 335 .pick [.t 328,.T 334,.const (.bool false)], .o 336 .move [.T 335], .y 337 (.loadF 4 true 3 false) [.t 9] 336, .y 338 (.fieldAddr 1) [.t 3] 336,
 .y 339 (.loadF 0 false 1 false) [.T 338] 336, .y 340 (.fieldAddr 4) [.t 5] 336, .y 341 (.loadF 1 false 1 false) [.T 340] 336,
 .y 342 (.indexAddr 3) [.T 339,.T 341] 336, .y 343 (.load true 3 false) [.T 342] 336, .y 344 (.eqv (.flat [.int,.int,.int]) false) [.T 337,.T 343] 336,
 .o 345 .pick [.t 336,.T 344,.const (.bool false)], .o 6 .move [.T 345]] (some []) [3,5,9,323,324,325,328,329,330,331,332,333,336,337,338,339,340,341,342,343])
 .ret) [3,5,8,9] .skip)))))))))))))))))))))))))))))))))))))) (.seq (.region [ .o 6 .move [.const (.bool false)]] none []) .ret))))))) }

/-- runrig/runrigref19.VarOf -/

def s49 : SFunc := { fid := 49,mode := .pure,nparams := 3,nboxes := 1,clr := [],results := [.tmp 6 false],body :=
 (.seq (.region [ .o 3 (.boxF 0 5) [.T 0], .o 6 .move [.const (.int .i64 0)]] none [6]) (.seq (.region [ .o 7 (.loadF 0 true 5 false) [.T 3],
 .o 8 .move [.T 1], .o 9 (.call 30) [.T 7,.T 8], .o 10 .move [.T 2], .o 11 (.bin .add) [.T 9,.T 10], .o 6 .move [.T 11]] none []) .ret)) }

/-- runrig/runrigref19.ResultOf -/

def s50 : SFunc := { fid := 50,mode := .pure,nparams := 2,nboxes := 1,clr := [],results := [.tmp 4 false],body :=
 (.seq (.region [ .o 2 (.boxF 0 5) [.T 0], .o 4 .move [.const (.int .i64 0)]] none [4]) (.seq (.region [ .o 5 (.loadF 0 true 5 false) [.t 2],
 .o 6 (.fieldAddr 2) [.T 2], .o 7 (.loadF 0 false 1 false) [.T 6], .o 8 (.len .sl) [.T 7], .o 9 (.call 30) [.T 5,.T 8], .o 10 .move [.T 1],
 .o 11 (.bin .add) [.T 9,.T 10], .o 4 .move [.T 11]] none []) .ret)) }

/-- runrig/runrigref19.GlobalOf -/

def s51 : SFunc := { fid := 51,mode := .pure,nparams := 2,nboxes := 1,clr := [],results := [.tmp 4 false],body :=
 (.seq (.region [ .o 2 (.boxF 0 5) [.T 0], .o 4 .move [.const (.int .i64 0)]] none [4]) (.seq (.region [ .o 5 (.loadF 0 true 5 false) [.t 2],
 .o 6 (.fieldAddr 2) [.t 2], .o 7 (.loadF 0 false 1 false) [.T 6], .o 8 (.len .sl) [.T 7], .o 9 (.call 30) [.T 5,.T 8], .o 10 (.fieldAddr 2) [.t 2],
 .o 11 (.loadF 0 false 1 false) [.T 10], .o 12 (.len .sl) [.T 11], .o 13 (.bin .add) [.T 9,.T 12], .o 14 .move [.T 1], .o 15 (.bin .add) [.T 13,.T 14],
 .o 4 .move [.T 15]] (some []) [2]) .ret)) }

/-- runrig/ir.shapes -/
def s52_l0 : SCode :=
 (.seq (.region [ .o 22 (.bin .lss) [.t 21,.t 20]] none []) (.seq (.cond (.T 22) [] .skip [19,20,21] (.exit 2)) (.seq (.block 3 (.seq (.region [
 .o 23 (.indexAddr 4) [.t 19,.t 21], .o 24 (.load true 4 false) [.T 23], .o 6 (.allocF 2 [.str [],.int .i64 0,.int .i64 0,.int .i64 0]) [],
 .n (.storeF 2 4) [.t 6,.T 24]] none []) (.seq (.region [ .o 25 (.loadF 0 true 5 false) [.t 1], .o 26 (.fieldAddr 1) [.T 6],
 .o 27 (.loadF 2 true 3 false) [.T 26], .o 28 (.call 85) [.T 25,.T 27], .o 29 (.un .not) [.T 28]] none []) (.cond (.T 29) [1,8,9,10,19,20,21] (.seq (.region [
 .o 2 .move [.const (.bool false)]] none []) .ret) [] .skip)))) (.region [ .o 30 (.bin .add) [.T 21,.const (.int .i64 1)], .o 21 .move [.T 30]] none []))))
def s52_l1 : SCode :=
 (.seq (.region [ .o 11 (.bin .lss) [.t 10,.t 9]] none []) (.seq (.cond (.T 11) [] .skip [1,8,9,10] (.exit 0)) (.seq (.block 1 (.seq (.region [
 .o 12 (.indexAddr 2) [.t 8,.t 10], .o 13 (.load true 2 false) [.T 12], .o 4 (.allocF 1 [.str [],.nilSl]) [], .n (.storeF 1 2) [.t 4,.T 13]] none []) (.seq
 (.seq (.region [ .o 14 (.fieldAddr 1) [.t 4], .o 15 (.loadF 1 false 1 false) [.T 14], .o 16 (.len .sl) [.T 15],
 .o 17 (.bin .gtr) [.T 16,.const (.int .i64 8)]] none []) (.cond (.T 17) [1,4,8,9,10] (.seq (.region [ .o 2 .move [.const (.bool false)]] none []) .ret) []
 .skip)) (.seq (.region [ .o 18 (.fieldAddr 1) [.T 4], .o 19 (.loadF 1 false 1 false) [.T 18], .o 20 (.len .sl) [.t 19],
 .o 21 .move [.const (.int .i64 0)]] none []) (.block 2 (.loop s52_l0)))))) (.region [ .o 31 (.bin .add) [.T 10,.const (.int .i64 1)],
 .o 10 .move [.T 31]] none []))))
def s52 : SFunc := { fid := 52,mode := .pure,nparams := 1,nboxes := 3,clr := [],results := [.tmp 2 false],body :=
 (.seq (.region [ .o 1 (.boxF 0 5) [.T 0], .o 2 .move [.const (.bool false)]] none [2]) (.seq (.seq (.region [ .o 7 (.fieldAddr 0) [.t 1],
 .o 8 (.loadF 0 false 1 false) [.T 7], .o 9 (.len .sl) [.t 8], .o 10 .move [.const (.int .i64 0)]] none []) (.block 0 (.loop s52_l1))) (.seq (.region [
 .o 2 .move [.const (.bool true)]] none []) .ret))) }

/-- runrig/ir.types -/
def s53_l0 : SCode :=
 (.seq (.region [ .o 10 (.bin .lss) [.t 9,.t 8]] none []) (.seq (.cond (.T 10) [] .skip [2,7,8,9] (.exit 0)) (.seq (.block 1 (.seq (.region [
 .o 11 (.indexAddr 3) [.t 7,.t 9], .o 12 (.load true 3 false) [.T 11], .o 6 (.allocF 1 [.int .i64 0,.int .i64 0,.int .i64 0]) [],
 .n (.storeF 1 3) [.t 6,.T 12]] none []) (.seq (.region [ .o 13 (.loadF 0 true 5 false) [.t 2], .o 14 (.loadF 1 true 3 false) [.T 6],
 .o 15 (.call 85) [.T 13,.T 14], .o 16 (.un .not) [.T 15]] none []) (.cond (.T 16) [2,7,8,9] (.seq (.region [ .o 4 .move [.const (.bool false)]] none [])
 .ret) [] .skip)))) (.region [ .o 17 (.bin .add) [.T 9,.const (.int .i64 1)], .o 9 .move [.T 17]] none []))))
def s53 : SFunc := { fid := 53,mode := .pure,nparams := 2,nboxes := 2,clr := [],results := [.tmp 4 false],body :=
 (.seq (.region [ .o 2 (.boxF 0 5) [.T 0], .o 4 .move [.const (.bool false)]] none [4]) (.seq (.seq (.region [ .o 7 .move [.T 1], .o 8 (.len .sl) [.t 7],
 .o 9 .move [.const (.int .i64 0)]] none []) (.block 0 (.loop s53_l0))) (.seq (.region [ .o 4 .move [.const (.bool true)]] none []) .ret))) }

/-- runrig/ir.sites -/
def s54_l0 : SCode :=
 (.seq (.region [ .o 9 (.bin .lss) [.t 8,.t 7]] none []) (.seq (.cond (.T 9) [] .skip [1,6,7,8] (.exit 0)) (.seq (.block 1 (.seq (.region [
 .o 10 (.indexAddr 4) [.t 6,.t 8], .o 11 (.load true 4 false) [.T 10], .o 4 (.allocF 1 [.int .i64 0,.int .i64 0,.int .i64 0,.int .i64 0]) [],
 .n (.storeF 1 4) [.t 4,.T 11]] none []) (.seq (.region [ .o 12 (.loadF 0 true 5 false) [.t 1], .o 13 (.fieldAddr 1) [.t 4],
 .o 14 (.loadF 1 true 3 false) [.T 13], .o 15 (.call 85) [.T 12,.T 14], .o 16 (.un .not) [.T 15], .o 17 .move [.T 16], .z 18 (.fieldAddr 1) [.t 4] 17,
 .z 19 (.loadF 1 true 3 false) [.T 18] 17, .z 20 (.call 86) [.T 19] 17, .z 21 (.un .not) [.T 20] 17, .o 22 .pick [.T 17,.const (.bool true),.T 21],
 .o 23 .move [.T 22], .z 24 (.fieldAddr 0) [.t 4] 23, .z 25 (.loadF 1 false 1 false) [.T 24] 23, .z 26 (.bin .lss) [.T 25,.const (.int .i64 0)] 23,
 .o 27 .pick [.T 23,.const (.bool true),.T 26], .o 28 .move [.T 27], .z 29 (.fieldAddr 0) [.T 4] 28, .z 30 (.loadF 1 false 1 false) [.T 29] 28,
 .z 31 (.fieldAddr 2) [.t 1] 28, .z 32 (.loadF 0 false 1 false) [.T 31] 28, .z 33 (.len .sl) [.T 32] 28, .z 34 (.bin .geq) [.T 30,.T 33] 28,
 .o 35 .pick [.T 28,.const (.bool true),.T 34]] none [4,18,19,20,24,25,29,30,31,32,33]) (.cond (.T 35) [1,6,7,8] (.seq (.region [
 .o 2 .move [.const (.bool false)]] none []) .ret) [] .skip)))) (.region [ .o 36 (.bin .add) [.T 8,.const (.int .i64 1)], .o 8 .move [.T 36]] none []))))
def s54 : SFunc := { fid := 54,mode := .pure,nparams := 1,nboxes := 2,clr := [],results := [.tmp 2 false],body :=
 (.seq (.region [ .o 1 (.boxF 0 5) [.T 0], .o 2 .move [.const (.bool false)]] none [2]) (.seq (.seq (.region [ .o 5 (.fieldAddr 3) [.t 1],
 .o 6 (.loadF 0 false 1 false) [.T 5], .o 7 (.len .sl) [.t 6], .o 8 .move [.const (.int .i64 0)]] none []) (.block 0 (.loop s54_l0))) (.seq (.region [
 .o 2 .move [.const (.bool true)]] none []) .ret))) }

/-- runrig/ir.codes -/
def s55_l0 : SCode :=
 (.seq (.region [ .o 10 (.bin .lss) [.t 9,.t 8]] none []) (.seq (.cond (.T 10) [] .skip [1,3,7,8,9] (.exit 0)) (.seq (.block 1 (.seq (.region [
 .o 11 .move [.t 9], .o 12 (.indexAddr 7) [.t 7,.t 9], .o 13 (.load true 7 false) [.T 12],
 .o 5 (.allocF 1 [.int .i64 0,.nilSl,.bool false,.int .i64 0,.int .i64 0,.int .i64 0,.nilSl]) [], .o 4 .move [.T 11], .n (.storeF 1 7) [.t 5,.T 13]] none [])
 (.seq (.region [ .o 14 .move [.T 3], .o 15 (.fieldAddr 6) [.T 5], .o 16 (.loadF 1 false 1 false) [.T 15], .o 17 (.len .sl) [.T 16],
 .o 18 (.bin .add) [.T 14,.T 17], .o 3 .move [.T 18]] none []) (.seq (.region [ .o 19 .move [.t 3], .o 20 (.bin .gtr) [.T 19,.const (.int .i64 2500)],
 .o 21 .move [.T 20], .z 22 (.loadF 0 true 5 false) [.t 1] 21, .z 23 .move [.T 4] 21, .z 24 (.call 87) [.T 22,.T 23] 21, .z 25 (.un .not) [.T 24] 21,
 .o 26 .pick [.T 21,.const (.bool true),.T 25]] none [4,22,23,24]) (.cond (.T 26) [1,3,7,8,9] (.seq (.region [ .o 2 .move [.const (.bool false)]] none [])
 .ret) [] .skip))))) (.region [ .o 27 (.bin .add) [.T 9,.const (.int .i64 1)], .o 9 .move [.T 27]] none []))))
def s55 : SFunc := { fid := 55,mode := .pure,nparams := 1,nboxes := 2,clr := [],results := [.tmp 2 false],body :=
 (.seq (.region [ .o 1 (.boxF 0 5) [.T 0], .o 2 .move [.const (.bool false)]] none [2]) (.seq (.region [ .o 3 .move [.const (.int .i64 0)]] none []) (.seq
 (.seq (.region [ .o 6 (.fieldAddr 2) [.t 1], .o 7 (.loadF 0 false 1 false) [.T 6], .o 8 (.len .sl) [.t 7], .o 9 .move [.const (.int .i64 0)]] none [])
 (.block 0 (.loop s55_l0))) (.seq (.region [ .o 2 .move [.const (.bool true)]] none []) .ret)))) }

/-- (*runrig/cons.maker).add -/

def s56 : SFunc := { fid := 56,mode := .scp,nparams := 5,nboxes := 0,clr := [],results := [],body :=
 (.region [ .o 10 .move [.t 0], .o 11 .move [.T 0], .o 12 .nilCheck [.T 11], .o 13 (.fieldAddr 11) [.T 12], .o 14 (.load false 1 true) [.T 13],
 .o 15 .move [.T 1], .o 16 .move [.T 2], .o 17 .move [.T 3], .o 18 .move [.T 4],
 .o 19 (.build [.int .i64 0,.int .i64 0,.int .i64 0,.int .i64 0] [(0,1),(1,1),(2,1),(3,1)]) [.T 15,.T 16,.T 17,.T 18],
 .o 20 (.lit 4 1 [.int .i64 0,.int .i64 0,.int .i64 0,.int .i64 0] [0]) [.T 19], .o 21 (.append 4 32) [.T 14,.T 20], .o 22 .nilCheck [.T 10],
 .o 23 (.fieldAddr 11) [.T 22], .n (.store 1) [.T 23,.T 21]] none []) }

/-- (*runrig/cons.maker).v -/

def s57 : SFunc := { fid := 57,mode := .scp,nparams := 2,nboxes := 0,clr := [],results := [.tmp 4 false],body :=
 (.seq (.region [ .o 4 .move [.const (.int .i64 0)]] none [4]) (.seq (.region [ .o 5 .move [.t 0], .o 6 .nilCheck [.T 5], .o 7 (.fieldAddr 7) [.T 6],
 .o 8 (.load false 1 false) [.T 7], .o 9 .move [.t 0], .o 10 .nilCheck [.T 9], .o 11 (.fieldAddr 8) [.T 10], .o 12 (.load false 1 false) [.T 11],
 .o 13 (.indexAddr 1) [.T 8,.T 12], .o 14 (.load false 1 false) [.T 13], .o 15 .move [.T 1], .o 16 (.bin .add) [.T 14,.T 15],
 .o 4 .move [.T 16]] (some []) [0]) .ret)) }

/-- (*runrig/cons.maker).call -/
def s58_l0 : SCode :=
 (.seq (.region [ .o 10 (.bin .lss) [.t 9,.t 8]] none []) (.seq (.cond (.T 10) [] .skip [7,8,9] (.exit 0)) (.seq (.block 1 (.seq (.region [ .o 11 .move [.t 9],
 .o 12 (.indexAddr 1) [.t 7,.t 9], .o 13 (.load false 1 false) [.T 12], .o 4 .move [.T 11], .o 5 .move [.T 13]] none []) (.seq (.region [ .o 14 .move [.t 0],
 .o 15 .move [.t 5], .o 16 (.call 59) [.T 14,.T 15]] none []) (.cond (.T 16) [] (.region [ .o 17 .move [.t 0], .o 18 .move [.t 0], .o 19 .nilCheck [.T 18],
 .o 20 (.fieldAddr 7) [.T 19], .o 21 (.load false 1 false) [.T 20], .o 22 (.fieldAddr 3) [.t 3], .o 23 (.loadF 0 false 1 false) [.T 22],
 .o 24 (.indexAddr 1) [.T 21,.T 23], .o 25 (.load false 1 false) [.T 24], .o 26 .move [.T 4], .o 27 (.bin .add) [.T 25,.T 26], .o 28 .move [.t 0],
 .o 29 .move [.T 5], .o 30 (.call 57) [.T 28,.T 29],
 .o 31 (.call 56) [.T 17,.const (.int .i64 2),.T 27,.T 30,.const (.int .i64 0)]] (some [(4,13),(7,13),(8,13)]) [31]) [4,5] .skip)))) (.region [
 .o 32 (.bin .add) [.T 9,.const (.int .i64 1)], .o 9 .move [.T 32]] none []))))
def s58 : SFunc := { fid := 58,mode := .scp,nparams := 2,nboxes := 1,clr := [],results := [],body :=
 (.seq (.region [ .o 3 (.boxF 0 6) [.T 1]] none []) (.seq (.seq (.region [ .o 6 (.fieldAddr 5) [.t 3], .o 7 (.loadF 0 false 1 false) [.T 6],
 .o 8 (.len .sl) [.t 7], .o 9 .move [.const (.int .i64 0)]] none []) (.block 0 (.loop s58_l0))) (.seq (.region [ .o 33 .move [.t 0],
 .o 34 (.fieldAddr 1) [.t 3], .o 35 (.loadF 0 false 1 false) [.T 34], .o 36 (.call 59) [.T 33,.T 35]] none []) (.cond (.T 36) [] (.region [ .o 37 .move [.t 0],
 .o 38 .move [.t 0], .o 39 (.fieldAddr 1) [.t 3], .o 40 (.loadF 0 false 1 false) [.T 39], .o 41 (.call 57) [.T 38,.T 40], .o 42 .move [.t 0],
 .o 43 (.fieldAddr 3) [.t 3], .o 44 (.loadF 0 false 1 false) [.T 43], .o 45 (.call 60) [.T 42,.T 44],
 .o 46 (.call 56) [.T 37,.const (.int .i64 2),.T 41,.T 45,.const (.int .i64 0)]] (some []) [0,3,46]) [0,3] .skip)))) }

/-- (*runrig/cons.maker).ref -/

def s59 : SFunc := { fid := 59,mode := .scp,nparams := 2,nboxes := 0,clr := [],results := [.tmp 4 false],body :=
 (.seq (.region [ .o 4 .move [.const (.bool false)]] none [4]) (.seq (.region [ .o 5 .move [.t 1], .o 6 (.bin .geq) [.T 5,.const (.int .i64 0)],
 .o 7 .move [.T 6], .y 8 .move [.T 0] 7, .y 9 .nilCheck [.T 8] 7, .y 10 (.fieldAddr 0) [.T 9] 7, .y 11 (.fieldAddr 1) [.T 10] 7,
 .y 12 (.load false 1 false) [.T 11] 7, .y 13 .move [.T 1] 7, .y 14 (.indexAddr 3) [.T 12,.T 13] 7, .y 15 (.load true 3 false) [.T 14] 7,
 .y 16 (.call 86) [.T 15] 7, .o 17 .pick [.T 7,.T 16,.const (.bool false)], .o 4 .move [.T 17]] none [0,1,8,9,10,11,12,13,14,15]) .ret)) }

/-- (*runrig/cons.maker).resultOf -/

def s60 : SFunc := { fid := 60,mode := .scp,nparams := 2,nboxes := 0,clr := [],results := [.tmp 4 false],body :=
 (.seq (.region [ .o 4 .move [.const (.int .i64 0)]] none [4]) (.seq (.region [ .o 5 .move [.T 0], .o 6 .nilCheck [.T 5], .o 7 (.fieldAddr 9) [.T 6],
 .o 8 (.load false 1 false) [.T 7], .o 9 .move [.T 1], .o 10 (.bin .add) [.T 8,.T 9], .o 4 .move [.T 10]] none []) .ret)) }

/-- (*runrig/cons.maker).global -/

def s61 : SFunc := { fid := 61,mode := .scp,nparams := 2,nboxes := 0,clr := [],results := [.tmp 4 false],body :=
 (.seq (.region [ .o 4 .move [.const (.int .i64 0)]] none [4]) (.seq (.region [ .o 5 .move [.t 0], .o 6 .nilCheck [.T 5], .o 7 (.fieldAddr 9) [.T 6],
 .o 8 (.load false 1 false) [.T 7], .o 9 .move [.t 0], .o 10 .nilCheck [.T 9], .o 11 (.fieldAddr 10) [.T 10], .o 12 (.load false 1 false) [.T 11],
 .o 13 (.len .sl) [.T 12], .o 14 (.bin .add) [.T 8,.T 13], .o 15 .move [.T 1], .o 16 (.bin .add) [.T 14,.T 15], .o 4 .move [.T 16]] (some []) [0]) .ret)) }

/-- (*runrig/cons.maker).moves -/

def s62 : SFunc := { fid := 62,mode := .scp,nparams := 2,nboxes := 1,clr := [],results := [],body :=
 (.seq (.region [ .o 3 (.boxF 0 6) [.T 1]] none []) (.block 0 (.seq (.region [ .o 5 (.fieldAddr 0) [.t 3], .o 6 (.loadF 0 false 1 false) [.T 5],
 .o 7 (.bin .eql) [.T 6,.const (.int .i64 3)], .o 8 .move [.T 7], .y 9 .move [.t 0] 8, .y 10 (.fieldAddr 1) [.t 3] 8, .y 11 (.loadF 0 false 1 false) [.T 10] 8,
 .y 12 (.call 59) [.T 9,.T 11] 8, .o 13 .pick [.T 8,.T 12,.const (.bool false)], .o 4 .move [.T 13]] none [9,10,11]) (.cond (.T 4) [] (.region [
 .o 14 .move [.t 0], .o 15 .move [.t 0], .o 16 (.fieldAddr 1) [.t 3], .o 17 (.loadF 0 false 1 false) [.T 16], .o 18 (.call 57) [.T 15,.T 17],
 .o 19 .move [.t 0], .o 20 (.fieldAddr 2) [.t 3], .o 21 (.loadF 0 false 1 false) [.T 20], .o 22 (.call 57) [.T 19,.T 21],
 .o 23 (.call 56) [.T 14,.const (.int .i64 2),.T 18,.T 22,.const (.int .i64 0)]] (some []) [0,3,23]) [] (.seq (.region [ .o 25 (.fieldAddr 0) [.t 3],
 .o 26 (.loadF 0 false 1 false) [.T 25], .o 27 (.bin .eql) [.T 26,.const (.int .i64 6)], .o 28 .move [.T 27], .y 29 .move [.t 0] 28,
 .y 30 (.fieldAddr 1) [.t 3] 28, .y 31 (.loadF 0 false 1 false) [.T 30] 28, .y 32 (.call 59) [.T 29,.T 31] 28, .o 33 .pick [.T 28,.T 32,.const (.bool false)],
 .o 24 .move [.T 33]] none [29,30,31]) (.cond (.T 24) [] (.region [ .o 34 .move [.t 0], .o 35 .move [.t 0], .o 36 (.fieldAddr 1) [.t 3],
 .o 37 (.loadF 0 false 1 false) [.T 36], .o 38 (.call 57) [.T 35,.T 37], .o 39 .move [.t 0], .o 40 (.fieldAddr 2) [.t 3],
 .o 41 (.loadF 0 false 1 false) [.T 40], .o 42 (.call 57) [.T 39,.T 41], .o 43 (.fieldAddr 3) [.t 3], .o 44 (.loadF 0 false 1 false) [.T 43],
 .o 45 (.call 56) [.T 34,.const (.int .i64 3),.T 38,.T 42,.T 44]] (some []) [0,3,45]) [] (.seq (.region [ .o 47 (.fieldAddr 0) [.t 3],
 .o 48 (.loadF 0 false 1 false) [.T 47], .o 49 (.bin .eql) [.T 48,.const (.int .i64 8)], .o 50 .move [.T 49], .y 51 .move [.t 0] 50,
 .y 52 (.fieldAddr 1) [.t 3] 50, .y 53 (.loadF 0 false 1 false) [.T 52] 50, .y 54 (.call 59) [.T 51,.T 53] 50, .o 55 .pick [.T 50,.T 54,.const (.bool false)],
 .o 46 .move [.T 55]] none [51,52,53]) (.cond (.T 46) [] (.region [ .o 56 .move [.t 0], .o 57 .move [.t 0], .o 58 (.fieldAddr 1) [.t 3],
 .o 59 (.loadF 0 false 1 false) [.T 58], .o 60 (.call 57) [.T 57,.T 59], .o 61 .move [.t 0], .o 62 (.fieldAddr 2) [.t 3],
 .o 63 (.loadF 0 false 1 false) [.T 62], .o 64 (.call 57) [.T 61,.T 63],
 .o 65 (.call 56) [.T 56,.const (.int .i64 3),.T 60,.T 64,.const (.int .i64 0)]] (some []) [0,3,65]) [] (.seq (.region [ .o 67 (.fieldAddr 0) [.t 3],
 .o 68 (.loadF 0 false 1 false) [.T 67], .o 69 (.bin .eql) [.T 68,.const (.int .i64 7)], .o 70 .move [.T 69], .y 71 .move [.t 0] 70,
 .y 72 (.fieldAddr 2) [.t 3] 70, .y 73 (.loadF 0 false 1 false) [.T 72] 70, .y 74 (.call 59) [.T 71,.T 73] 70, .o 75 .pick [.T 70,.T 74,.const (.bool false)],
 .o 66 .move [.T 75]] none [71,72,73]) (.cond (.T 66) [] (.region [ .o 76 .move [.t 0], .o 77 .move [.t 0], .o 78 (.fieldAddr 1) [.t 3],
 .o 79 (.loadF 0 false 1 false) [.T 78], .o 80 (.call 57) [.T 77,.T 79], .o 81 .move [.t 0], .o 82 (.fieldAddr 2) [.t 3],
 .o 83 (.loadF 0 false 1 false) [.T 82], .o 84 (.call 57) [.T 81,.T 83], .o 85 (.fieldAddr 3) [.t 3], .o 86 (.loadF 0 false 1 false) [.T 85],
 .o 87 (.call 56) [.T 76,.const (.int .i64 4),.T 80,.T 84,.T 86]] (some []) [0,3,87]) [] (.seq (.region [ .o 89 (.fieldAddr 0) [.t 3],
 .o 90 (.loadF 0 false 1 false) [.T 89], .o 91 (.bin .eql) [.T 90,.const (.int .i64 9)], .o 92 .move [.T 91], .y 93 .move [.t 0] 92,
 .y 94 (.fieldAddr 3) [.t 3] 92, .y 95 (.loadF 0 false 1 false) [.T 94] 92, .y 96 (.call 59) [.T 93,.T 95] 92, .o 97 .pick [.T 92,.T 96,.const (.bool false)],
 .o 88 .move [.T 97]] none [93,94,95]) (.cond (.T 88) [] (.region [ .o 98 .move [.t 0], .o 99 .move [.t 0], .o 100 (.fieldAddr 1) [.t 3],
 .o 101 (.loadF 0 false 1 false) [.T 100], .o 102 (.call 57) [.T 99,.T 101], .o 103 .move [.t 0], .o 104 (.fieldAddr 3) [.t 3],
 .o 105 (.loadF 0 false 1 false) [.T 104], .o 106 (.call 57) [.T 103,.T 105],
 .o 107 (.call 56) [.T 98,.const (.int .i64 4),.T 102,.T 106,.const (.int .i64 0)]] (some []) [0,3,107]) [0,3] .skip)))))))))))) }

/-- runrig/runrigref19.of -/
def s63_l0 : SCode :=
 (.seq (.seq (.region [ .o 133 .move [.t 12], .o 134 (.fieldAddr 5) [.t 7], .o 135 (.loadF 1 false 1 false) [.T 134], .o 136 (.len .sl) [.T 135],
 .o 137 (.bin .lss) [.T 133,.T 136]] none []) (.cond (.T 137) [] .skip [11,12] (.exit 1))) (.seq (.block 2 (.seq (.region [
 .o 140 (.loadF 2 true 7 false) [.t 9], .o 141 (.fieldAddr 5) [.t 7], .o 142 (.loadF 1 false 1 false) [.T 141], .o 143 .move [.t 12],
 .o 144 (.indexAddr 1) [.T 142,.T 143], .o 145 (.load false 1 false) [.T 144], .o 146 (.call 88) [.T 140,.T 145]] (some []) []) (.cond (.T 146) [] (.region [
 .o 147 .move [.T 10], .o 148 .move [.t 11], .o 149 .move [.t 12], .o 150 (.bin .add) [.T 148,.T 149], .o 151 .move [.t 2], .o 152 (.fieldAddr 5) [.t 7],
 .o 153 (.loadF 1 false 1 false) [.T 152], .o 154 .move [.t 12], .o 155 (.indexAddr 1) [.T 153,.T 154], .o 156 (.load false 1 false) [.T 155],
 .o 157 (.bin .add) [.T 151,.T 156],
 .o 158 (.build [.int .i64 0,.int .i64 0,.int .i64 0,.int .i64 0] [(0,1),(1,1),(2,1)]) [.const (.int .i64 2),.T 150,.T 157],
 .o 159 (.lit 4 1 [.int .i64 0,.int .i64 0,.int .i64 0,.int .i64 0] [0]) [.T 158], .o 160 (.append 4 32) [.T 147,.T 159], .o 10 .move [.T 160]] none []) []
 .skip))) (.region [ .o 138 .move [.T 12], .o 139 (.bin .add) [.T 138,.const (.int .i64 1)], .o 12 .move [.T 139]] none [])))
def s63 : SFunc := { fid := 63,mode := .pure,nparams := 4,nboxes := 3,clr := [],results := [.tmp 8 true],body :=
 (.seq (.region [ .o 4 (.boxF 0 5) [.T 0], .o 7 (.boxF 1 6) [.T 3], .o 8 .move [.const .nilSl]] none [8]) (.seq (.region [ .o 13 (.fieldAddr 2) [.t 4],
 .o 14 (.loadF 0 false 1 false) [.T 13], .o 15 .move [.t 1], .o 16 (.indexAddr 7) [.T 14,.T 15], .o 17 (.load true 7 false) [.T 16],
 .o 9 (.allocF 2 [.int .i64 0,.nilSl,.bool false,.int .i64 0,.int .i64 0,.int .i64 0,.nilSl]) [], .n (.storeF 2 7) [.t 9,.T 17]] none []) (.seq (.region [
 .o 10 .move [.const .nilSl]] none []) (.seq (.seq (.region [ .o 18 (.fieldAddr 0) [.t 7], .o 19 (.loadF 1 false 1 false) [.T 18]] none []) (.block 0 (.seq
 (.region [ .o 21 (.bin .eql) [.t 19,.const (.int .i64 3)], .o 20 .move [.T 21]] none []) (.cond (.T 20) [1,4,19] (.seq (.region [
 .o 22 (.loadF 2 true 7 false) [.T 9], .o 23 (.fieldAddr 1) [.t 7], .o 24 (.loadF 1 false 1 false) [.T 23], .o 25 (.call 88) [.T 22,.T 24]] none [])
 (.cond (.T 25) [] (.region [ .o 26 .move [.T 10], .o 27 .move [.t 2], .o 28 (.fieldAddr 1) [.t 7], .o 29 (.loadF 1 false 1 false) [.T 28],
 .o 30 (.bin .add) [.T 27,.T 29], .o 31 .move [.T 2], .o 32 (.fieldAddr 2) [.T 7], .o 33 (.loadF 1 false 1 false) [.T 32], .o 34 (.bin .add) [.T 31,.T 33],
 .o 35 (.build [.int .i64 0,.int .i64 0,.int .i64 0,.int .i64 0] [(0,1),(1,1),(2,1)]) [.const (.int .i64 2),.T 30,.T 34],
 .o 36 (.lit 4 1 [.int .i64 0,.int .i64 0,.int .i64 0,.int .i64 0] [0]) [.T 35], .o 37 (.append 4 32) [.T 26,.T 36], .o 10 .move [.T 37]] none []) [2,7]
 .skip)) [] (.seq (.region [ .o 39 (.bin .eql) [.t 19,.const (.int .i64 6)], .o 38 .move [.T 39]] none []) (.cond (.T 38) [1,4,19] (.seq (.region [
 .o 40 (.loadF 2 true 7 false) [.T 9], .o 41 (.fieldAddr 1) [.t 7], .o 42 (.loadF 1 false 1 false) [.T 41], .o 43 (.call 88) [.T 40,.T 42]] none [])
 (.cond (.T 43) [] (.region [ .o 44 .move [.T 10], .o 45 .move [.t 2], .o 46 (.fieldAddr 1) [.t 7], .o 47 (.loadF 1 false 1 false) [.T 46],
 .o 48 (.bin .add) [.T 45,.T 47], .o 49 .move [.T 2], .o 50 (.fieldAddr 2) [.t 7], .o 51 (.loadF 1 false 1 false) [.T 50], .o 52 (.bin .add) [.T 49,.T 51],
 .o 53 (.fieldAddr 3) [.T 7], .o 54 (.loadF 1 false 1 false) [.T 53],
 .o 55 (.build [.int .i64 0,.int .i64 0,.int .i64 0,.int .i64 0] [(0,1),(1,1),(2,1),(3,1)]) [.const (.int .i64 3),.T 48,.T 52,.T 54],
 .o 56 (.lit 4 1 [.int .i64 0,.int .i64 0,.int .i64 0,.int .i64 0] [0]) [.T 55], .o 57 (.append 4 32) [.T 44,.T 56], .o 10 .move [.T 57]] none []) [2,7]
 .skip)) [] (.seq (.region [ .o 59 (.bin .eql) [.t 19,.const (.int .i64 8)], .o 58 .move [.T 59]] none []) (.cond (.T 58) [1,4,19] (.seq (.region [
 .o 60 (.loadF 2 true 7 false) [.T 9], .o 61 (.fieldAddr 1) [.t 7], .o 62 (.loadF 1 false 1 false) [.T 61], .o 63 (.call 88) [.T 60,.T 62]] none [])
 (.cond (.T 63) [] (.region [ .o 64 .move [.T 10], .o 65 .move [.t 2], .o 66 (.fieldAddr 1) [.t 7], .o 67 (.loadF 1 false 1 false) [.T 66],
 .o 68 (.bin .add) [.T 65,.T 67], .o 69 .move [.T 2], .o 70 (.fieldAddr 2) [.T 7], .o 71 (.loadF 1 false 1 false) [.T 70], .o 72 (.bin .add) [.T 69,.T 71],
 .o 73 (.build [.int .i64 0,.int .i64 0,.int .i64 0,.int .i64 0] [(0,1),(1,1),(2,1)]) [.const (.int .i64 3),.T 68,.T 72],
 .o 74 (.lit 4 1 [.int .i64 0,.int .i64 0,.int .i64 0,.int .i64 0] [0]) [.T 73], .o 75 (.append 4 32) [.T 64,.T 74], .o 10 .move [.T 75]] none []) [2,7]
 .skip)) [] (.seq (.region [ .o 77 (.bin .eql) [.t 19,.const (.int .i64 7)], .o 76 .move [.T 77]] none []) (.cond (.T 76) [1,4,19] (.seq (.region [
 .o 78 (.loadF 2 true 7 false) [.T 9], .o 79 (.fieldAddr 2) [.t 7], .o 80 (.loadF 1 false 1 false) [.T 79], .o 81 (.call 88) [.T 78,.T 80]] none [])
 (.cond (.T 81) [] (.region [ .o 82 .move [.T 10], .o 83 .move [.t 2], .o 84 (.fieldAddr 1) [.t 7], .o 85 (.loadF 1 false 1 false) [.T 84],
 .o 86 (.bin .add) [.T 83,.T 85], .o 87 .move [.T 2], .o 88 (.fieldAddr 2) [.t 7], .o 89 (.loadF 1 false 1 false) [.T 88], .o 90 (.bin .add) [.T 87,.T 89],
 .o 91 (.fieldAddr 3) [.T 7], .o 92 (.loadF 1 false 1 false) [.T 91],
 .o 93 (.build [.int .i64 0,.int .i64 0,.int .i64 0,.int .i64 0] [(0,1),(1,1),(2,1),(3,1)]) [.const (.int .i64 4),.T 86,.T 90,.T 92],
 .o 94 (.lit 4 1 [.int .i64 0,.int .i64 0,.int .i64 0,.int .i64 0] [0]) [.T 93], .o 95 (.append 4 32) [.T 82,.T 94], .o 10 .move [.T 95]] none []) [2,7]
 .skip)) [] (.seq (.region [ .o 97 (.bin .eql) [.t 19,.const (.int .i64 9)], .o 96 .move [.T 97]] none []) (.cond (.T 96) [1,4,19] (.seq (.region [
 .o 98 (.loadF 2 true 7 false) [.T 9], .o 99 (.fieldAddr 3) [.t 7], .o 100 (.loadF 1 false 1 false) [.T 99], .o 101 (.call 88) [.T 98,.T 100]] none [])
 (.cond (.T 101) [] (.region [ .o 102 .move [.T 10], .o 103 .move [.t 2], .o 104 (.fieldAddr 1) [.t 7], .o 105 (.loadF 1 false 1 false) [.T 104],
 .o 106 (.bin .add) [.T 103,.T 105], .o 107 .move [.T 2], .o 108 (.fieldAddr 3) [.T 7], .o 109 (.loadF 1 false 1 false) [.T 108],
 .o 110 (.bin .add) [.T 107,.T 109],
 .o 111 (.build [.int .i64 0,.int .i64 0,.int .i64 0,.int .i64 0] [(0,1),(1,1),(2,1)]) [.const (.int .i64 4),.T 106,.T 110],
 .o 112 (.lit 4 1 [.int .i64 0,.int .i64 0,.int .i64 0,.int .i64 0] [0]) [.T 111], .o 113 (.append 4 32) [.T 102,.T 112], .o 10 .move [.T 113]] none []) [2,7]
 .skip)) [] (.seq (.seq (.region [ .o 115 (.bin .eql) [.t 19,.const (.int .i64 11)], .o 114 .move [.T 115]] none []) (.cond (.t 114) [] .skip [114] (.region [
 .o 116 (.bin .eql) [.t 19,.const (.int .i64 12)], .o 114 .move [.T 116]] none []))) (.cond (.T 114) [1,4,9,19] (.region [ .o 117 .move [.T 10],
 .o 118 .move [.T 2], .o 119 (.fieldAddr 1) [.t 7], .o 120 (.loadF 1 false 1 false) [.T 119], .o 121 (.bin .add) [.T 118,.T 120], .o 122 (.fieldAddr 4) [.T 7],
 .o 123 (.loadF 1 false 1 false) [.T 122],
 .o 124 (.build [.int .i64 0,.int .i64 0,.int .i64 0,.int .i64 0] [(0,1),(1,1),(2,1)]) [.const (.int .i64 1),.T 121,.T 123],
 .o 125 (.lit 4 1 [.int .i64 0,.int .i64 0,.int .i64 0,.int .i64 0] [0]) [.T 124], .o 126 (.append 4 32) [.T 117,.T 125], .o 10 .move [.T 126]] none []) []
 (.seq (.region [ .o 128 (.bin .eql) [.t 19,.const (.int .i64 13)], .o 127 .move [.T 128]] none []) (.cond (.T 127) [1,19] (.seq (.region [
 .o 129 (.loadF 0 true 5 false) [.t 4], .o 130 (.fieldAddr 3) [.t 7], .o 131 (.loadF 1 false 1 false) [.T 130], .o 132 (.call 30) [.T 129,.T 131],
 .o 11 .move [.T 132]] none []) (.seq (.seq (.region [ .o 12 .move [.const (.int .i64 0)]] none []) (.block 1 (.loop s63_l0))) (.seq (.region [
 .o 161 (.fieldAddr 1) [.t 7], .o 162 (.loadF 1 false 1 false) [.T 161], .o 163 (.bin .geq) [.T 162,.const (.int .i64 0)], .o 164 .move [.T 163],
 .y 165 (.loadF 2 true 7 false) [.T 9] 164, .y 166 (.fieldAddr 1) [.t 7] 164, .y 167 (.loadF 1 false 1 false) [.T 166] 164,
 .y 168 (.call 88) [.T 165,.T 167] 164, .o 169 .pick [.T 164,.T 168,.const (.bool false)]] none [9,165,166,167]) (.cond (.T 169) [] (.region [
 .o 170 .move [.T 10], .o 171 .move [.T 2], .o 172 (.fieldAddr 1) [.t 7], .o 173 (.loadF 1 false 1 false) [.T 172], .o 174 (.bin .add) [.T 171,.T 173],
 .o 175 (.loadF 0 true 5 false) [.T 4], .o 176 (.fieldAddr 3) [.t 7], .o 177 (.loadF 1 false 1 false) [.T 176], .o 178 (.call 50) [.T 175,.T 177],
 .o 179 (.build [.int .i64 0,.int .i64 0,.int .i64 0,.int .i64 0] [(0,1),(1,1),(2,1)]) [.const (.int .i64 2),.T 174,.T 178],
 .o 180 (.lit 4 1 [.int .i64 0,.int .i64 0,.int .i64 0,.int .i64 0] [0]) [.T 179], .o 181 (.append 4 32) [.T 170,.T 180],
 .o 10 .move [.T 181]] (some []) [7]) [2,4,7] .skip)))) [] (.seq (.region [ .o 183 (.bin .eql) [.t 19,.const (.int .i64 18)], .o 182 .move [.T 183]] none [])
 (.cond (.T 182) [19] (.seq (.region [ .o 184 (.fieldAddr 1) [.t 7], .o 185 (.loadF 1 false 1 false) [.T 184],
 .o 186 (.bin .geq) [.T 185,.const (.int .i64 0)], .o 187 .move [.T 186], .y 188 (.loadF 2 true 7 false) [.T 9] 187, .y 189 (.fieldAddr 1) [.t 7] 187,
 .y 190 (.loadF 1 false 1 false) [.T 189] 187, .y 191 (.call 88) [.T 188,.T 190] 187, .o 192 .pick [.T 187,.T 191,.const (.bool false)]] none [9,188,189,190])
 (.cond (.T 192) [] (.region [ .o 193 .move [.T 10], .o 194 (.loadF 0 true 5 false) [.T 4], .o 195 .move [.T 1], .o 196 (.call 50) [.T 194,.T 195],
 .o 197 .move [.T 2], .o 198 (.fieldAddr 1) [.T 7], .o 199 (.loadF 1 false 1 false) [.T 198], .o 200 (.bin .add) [.T 197,.T 199],
 .o 201 (.build [.int .i64 0,.int .i64 0,.int .i64 0,.int .i64 0] [(0,1),(1,1),(2,1)]) [.const (.int .i64 2),.T 196,.T 200],
 .o 202 (.lit 4 1 [.int .i64 0,.int .i64 0,.int .i64 0,.int .i64 0] [0]) [.T 201], .o 203 (.append 4 32) [.T 193,.T 202],
 .o 10 .move [.T 203]] (some []) []) [1,2,4,7] .skip)) [1] (.seq (.region [ .o 205 (.bin .eql) [.t 19,.const (.int .i64 19)], .o 204 .move [.T 205]] none [])
 (.cond (.T 204) [19] (.seq (.region [ .o 206 (.loadF 2 true 7 false) [.T 9], .o 207 (.fieldAddr 1) [.t 7], .o 208 (.loadF 1 false 1 false) [.T 207],
 .o 209 (.call 88) [.T 206,.T 208]] none []) (.cond (.T 209) [] (.region [ .o 210 .move [.T 10], .o 211 .move [.T 2], .o 212 (.fieldAddr 1) [.t 7],
 .o 213 (.loadF 1 false 1 false) [.T 212], .o 214 (.bin .add) [.T 211,.T 213], .o 215 (.loadF 0 true 5 false) [.T 4], .o 216 (.fieldAddr 4) [.t 7],
 .o 217 (.loadF 1 false 1 false) [.T 216], .o 218 (.call 51) [.T 215,.T 217],
 .o 219 (.build [.int .i64 0,.int .i64 0,.int .i64 0,.int .i64 0] [(0,1),(1,1),(2,1)]) [.const (.int .i64 2),.T 214,.T 218],
 .o 220 (.lit 4 1 [.int .i64 0,.int .i64 0,.int .i64 0,.int .i64 0] [0]) [.T 219], .o 221 (.append 4 32) [.T 210,.T 220],
 .o 10 .move [.T 221]] (some []) [7]) [2,4,7] .skip)) [] (.seq (.region [ .o 223 (.bin .eql) [.T 19,.const (.int .i64 20)], .o 222 .move [.T 223]] none [])
 (.cond (.T 222) [] (.seq (.region [ .o 224 (.loadF 2 true 7 false) [.T 9], .o 225 (.fieldAddr 1) [.t 7], .o 226 (.loadF 1 false 1 false) [.T 225],
 .o 227 (.call 88) [.T 224,.T 226]] none []) (.cond (.T 227) [] (.region [ .o 228 .move [.T 10], .o 229 (.loadF 0 true 5 false) [.T 4],
 .o 230 (.fieldAddr 4) [.t 7], .o 231 (.loadF 1 false 1 false) [.T 230], .o 232 (.call 51) [.T 229,.T 231], .o 233 .move [.T 2], .o 234 (.fieldAddr 1) [.t 7],
 .o 235 (.loadF 1 false 1 false) [.T 234], .o 236 (.bin .add) [.T 233,.T 235],
 .o 237 (.build [.int .i64 0,.int .i64 0,.int .i64 0,.int .i64 0] [(0,1),(1,1),(2,1)]) [.const (.int .i64 2),.T 232,.T 236],
 .o 238 (.lit 4 1 [.int .i64 0,.int .i64 0,.int .i64 0,.int .i64 0] [0]) [.T 237], .o 239 (.append 4 32) [.T 228,.T 238],
 .o 10 .move [.T 239]] (some []) [7]) [2,4,7] .skip)) [2,4,7,9] .skip)))))))))))))))))))))) (.seq (.region [ .o 240 .move [.T 10],
 .o 8 .move [.T 240]] none []) .ret))))) }

/-- runrig/runrigref2.blank -/
def s64_l0 : SCode :=
 (.seq (.seq (.region [ .o 49 .move [.t 1], .o 50 .move [.t 0], .o 51 (.len .str) [.T 50], .o 52 (.bin .lss) [.T 49,.T 51], .o 53 .move [.T 52],
 .y 54 .move [.t 0] 53, .y 55 .move [.t 1] 53, .y 56 .index [.T 54,.T 55] 53, .y 57 (.bin .neq) [.T 56,.const (.int .u8 10)] 53,
 .o 58 .pick [.T 53,.T 57,.const (.bool false)]] none [54,55,56]) (.cond (.T 58) [] .skip [] (.exit 3))) (.block 4 (.region [ .o 59 .move [.T 1],
 .o 60 (.bin .add) [.T 59,.const (.int .i64 1)], .o 1 .move [.T 60]] none [])))
def s64_l1 : SCode :=
 (.seq (.seq (.region [ .o 5 .move [.t 1], .o 6 .move [.t 0], .o 7 (.len .str) [.T 6], .o 8 (.bin .lss) [.T 5,.T 7]] none []) (.cond (.T 8) [] .skip [0]
 (.exit 0))) (.block 1 (.block 2 (.seq (.region [ .o 11 .move [.t 0], .o 12 .move [.t 1], .o 13 .index [.T 11,.T 12],
 .o 14 (.bin .eql) [.T 13,.const (.int .u8 32)], .o 15 .move [.T 14], .z 16 .move [.t 0] 15, .z 17 .move [.t 1] 15, .z 18 .index [.T 16,.T 17] 15,
 .z 19 (.bin .eql) [.T 18,.const (.int .u8 9)] 15, .o 20 .pick [.T 15,.const (.bool true),.T 19], .o 21 .move [.T 20], .z 22 .move [.t 0] 21,
 .z 23 .move [.t 1] 21, .z 24 .index [.T 22,.T 23] 21, .z 25 (.bin .eql) [.T 24,.const (.int .u8 10)] 21, .o 26 .pick [.T 21,.const (.bool true),.T 25],
 .o 27 .move [.T 26], .z 28 .move [.t 0] 27, .z 29 .move [.t 1] 27, .z 30 .index [.T 28,.T 29] 27, .z 31 (.bin .eql) [.T 30,.const (.int .u8 13)] 27,
 .o 32 .pick [.T 27,.const (.bool true),.T 31], .o 10 .move [.T 32]] none [16,17,18,22,23,24,28,29,30]) (.cond (.T 10) [] (.region [ .o 33 .move [.T 1],
 .o 34 (.bin .add) [.T 33,.const (.int .i64 1)], .o 1 .move [.T 34]] none []) [] (.seq (.region [ .o 36 .move [.t 0], .o 37 (.len .str) [.T 36],
 .o 38 .move [.t 1], .o 39 (.bin .sub) [.T 37,.T 38], .o 40 (.bin .geq) [.T 39,.const (.int .i64 2)], .o 41 .move [.T 40], .y 42 .move [.t 0] 41,
 .y 43 .move [.t 1] 41, .y 44 .move [.t 1] 41, .y 45 (.bin .add) [.T 44,.const (.int .i64 2)] 41, .y 46 (.slice true true true false 0) [.T 42,.T 43,.T 45] 41,
 .y 47 (.bin .eql) [.T 46,.const (.str [47,47])] 41, .o 48 .pick [.T 41,.T 47,.const (.bool false)], .o 35 .move [.T 48]] none [42,43,44,45,46])
 (.cond (.T 35) [] (.block 3 (.loop s64_l0)) [0] (.seq (.region [ .o 9 .move [.T 1], .o 4 .move [.T 9]] none []) .ret))))))))
def s64 : SFunc := { fid := 64,mode := .pure,nparams := 2,nboxes := 0,clr := [],results := [.tmp 4 false],body :=
 (.seq (.region [ .o 4 .move [.const (.int .i64 0)]] none [4]) (.seq (.block 0 (.loop s64_l1)) (.seq (.region [ .o 61 .move [.T 1],
 .o 4 .move [.T 61]] none []) .ret))) }

/-- runrig/runrigref2.one -/

def s65 : SFunc := { fid := 65,mode := .pure,nparams := 2,nboxes := 1,clr := [],results := [.box 4 0 4 true,.tmp 5 false],body :=
 (.seq (.region [ .o 4 (.allocF 0 [.int .i64 0,.str [],.int .i64 0,.int .i64 0]) [], .o 5 .move [.const (.int .i64 0)]] none [5]) (.seq (.block 0 (.seq
 (.region [ .o 13 .move [.t 0], .o 14 .move [.t 1], .o 15 .index [.T 13,.T 14], .o 16 (.call 89) [.T 15], .o 12 .move [.T 16]] none []) (.cond (.T 12) [] (.seq
 (.region [ .o 17 .move [.t 0], .o 18 .move [.t 1], .o 19 (.call 90) [.T 17,.T 18,.const (.bool false)], .o 6 .move [.T 19]] none []) (.seq (.region [
 .o 20 .move [.T 0], .o 21 .move [.t 1], .o 22 .move [.t 1], .o 23 .move [.t 6], .o 24 (.bin .add) [.T 22,.T 23],
 .o 25 (.slice true true true false 0) [.T 20,.T 21,.T 24], .o 7 .move [.T 25]] none []) (.seq (.seq (.region [ .o 26 .move [.t 7],
 .o 27 (.call 91) [.T 26]] none []) (.cond (.T 27) [] (.seq (.region [ .o 28 .move [.T 7], .o 29 .move [.T 1],
 .o 30 (.build [.int .i64 0,.str [],.int .i64 0,.int .i64 0] [(0,1),(1,1),(3,1)]) [.const (.int .i64 3),.T 28,.T 29], .o 31 .move [.T 6],
 .n (.storeF 0 4) [.t 4,.T 30], .o 5 .move [.T 31]] none []) .ret) [] .skip)) (.seq (.seq (.region [ .o 32 .move [.t 7], .o 33 (.call 92) [.T 32]] none [])
 (.cond (.T 33) [] (.seq (.region [ .o 34 .move [.T 7], .o 35 .move [.T 1],
 .o 36 (.build [.int .i64 0,.str [],.int .i64 0,.int .i64 0] [(0,1),(1,1),(3,1)]) [.const (.int .i64 1),.T 34,.T 35], .o 37 .move [.T 6],
 .n (.storeF 0 4) [.t 4,.T 36], .o 5 .move [.T 37]] none []) .ret) [1,6,7] .skip)) (.seq (.region [
 .o 38 (.build [.int .i64 0,.str [],.int .i64 0,.int .i64 0] []) [], .n (.storeF 0 4) [.t 4,.T 38], .o 5 .move [.const (.int .i64 0)]] none []) .ret))))) []
 (.seq (.region [ .o 40 .move [.t 0], .o 41 .move [.t 1], .o 42 .index [.T 40,.T 41], .o 43 (.call 93) [.T 42], .o 39 .move [.T 43]] none []) (.cond (.T 39) []
 (.seq (.region [ .o 44 .move [.t 0], .o 45 .move [.t 1], .o 46 (.call 90) [.T 44,.T 45,.const (.bool true)], .o 8 .move [.T 46]] none []) (.seq (.region [
 .o 48 .move [.t 0], .o 49 .move [.t 1], .o 50 .move [.t 1], .o 51 .move [.t 8], .o 52 (.bin .add) [.T 50,.T 51],
 .o 53 (.slice true true true false 0) [.T 48,.T 49,.T 52], .o 54 (.call 94) [.T 53], .o 47 .move [.T 54], .o 55 (.extract 0) [.t 47],
 .o 56 (.extract 1) [.T 47], .o 9 .move [.T 55], .o 10 .move [.T 56]] none []) (.seq (.seq (.region [ .o 57 .move [.T 10], .o 58 (.un .not) [.T 57],
 .o 59 .move [.T 58], .z 60 .move [.t 8] 59, .z 61 (.bin .gtr) [.T 60,.const (.int .i64 1)] 59, .z 62 .move [.T 61] 59, .y 63 .move [.t 0] 62,
 .y 64 .move [.t 1] 62, .y 65 .index [.T 63,.T 64] 62, .y 66 (.bin .eql) [.T 65,.const (.int .u8 48)] 62, .z 67 .pick [.T 62,.T 66,.const (.bool false)] 59,
 .o 68 .pick [.T 59,.const (.bool true),.T 67], .o 69 .move [.T 68], .z 70 .move [.t 1] 69, .z 71 .move [.t 8] 69, .z 72 (.bin .add) [.T 70,.T 71] 69,
 .z 73 .move [.t 0] 69, .z 74 (.len .str) [.T 73] 69, .z 75 (.bin .lss) [.T 72,.T 74] 69, .z 76 .move [.T 75] 69, .y 77 .move [.T 0] 76, .y 78 .move [.t 1] 76,
 .y 79 .move [.t 8] 76, .y 80 (.bin .add) [.T 78,.T 79] 76, .y 81 .index [.T 77,.T 80] 76, .y 82 (.call 89) [.T 81] 76,
 .z 83 .pick [.T 76,.T 82,.const (.bool false)] 69,
 .o 84 .pick [.T 69,.const (.bool true),.T 83]] none [0,60,61,62,63,64,65,66,70,71,72,73,74,75,76,77,78,79,80,81,82]) (.cond (.T 84) [1,8,9] (.seq (.region [
 .o 85 (.build [.int .i64 0,.str [],.int .i64 0,.int .i64 0] []) [], .n (.storeF 0 4) [.t 4,.T 85], .o 5 .move [.const (.int .i64 0)]] none []) .ret) []
 .skip)) (.seq (.region [ .o 86 .move [.T 9], .o 87 .move [.T 1],
 .o 88 (.build [.int .i64 0,.str [],.int .i64 0,.int .i64 0] [(0,1),(2,1),(3,1)]) [.const (.int .i64 2),.T 86,.T 87], .o 89 .move [.T 8],
 .n (.storeF 0 4) [.t 4,.T 88], .o 5 .move [.T 89]] none []) .ret)))) [] .skip))))) (.seq (.region [ .o 90 .move [.T 0], .o 91 .move [.t 1],
 .o 92 (.call 95) [.T 90,.T 91], .o 11 .move [.T 92]] none []) (.seq (.seq (.region [ .o 93 .move [.t 11], .o 94 (.bin .eql) [.T 93,.const (.str [])]] none [])
 (.cond (.T 94) [1,11] (.seq (.region [ .o 95 (.build [.int .i64 0,.str [],.int .i64 0,.int .i64 0] []) [], .n (.storeF 0 4) [.t 4,.T 95],
 .o 5 .move [.const (.int .i64 0)]] none []) .ret) [] .skip)) (.seq (.region [ .o 96 .move [.t 11], .o 97 .move [.T 1],
 .o 98 (.build [.int .i64 0,.str [],.int .i64 0,.int .i64 0] [(0,1),(1,1),(3,1)]) [.const (.int .i64 4),.T 96,.T 97], .o 99 .move [.T 11],
 .o 100 (.len .str) [.T 99], .n (.storeF 0 4) [.t 4,.T 98], .o 5 .move [.T 100]] none []) .ret))))) }

/-- (*runrig/runrigref3.reader).name -/

def s66 : SFunc := { fid := 66,mode := .scp,nparams := 1,nboxes := 1,clr := [],results := [.tmp 2 false],body :=
 (.seq (.region [ .o 2 .move [.const (.str [])]] none [2]) (.seq (.region [ .o 4 .move [.t 0], .o 5 (.call 33) [.T 4],
 .o 3 (.allocF 0 [.int .i64 0,.str [],.int .i64 0,.int .i64 0]) [], .n (.storeF 0 4) [.t 3,.T 5]] none []) (.seq (.seq (.region [ .o 6 .move [.t 0],
 .o 7 (.call 32) [.T 6], .o 8 .move [.T 7], .y 9 (.fieldAddr 0) [.t 3] 8, .y 10 (.loadF 0 false 1 false) [.T 9] 8,
 .y 11 (.bin .eql) [.T 10,.const (.int .i64 1)] 8, .o 12 .pick [.T 8,.T 11,.const (.bool false)]] none [9,10]) (.cond (.T 12) [] (.seq (.region [
 .o 13 .move [.T 0], .o 14 .nilCheck [.t 13], .o 15 (.fieldAddr 1) [.T 14], .o 16 (.load false 1 false) [.T 15],
 .o 17 (.bin .add) [.T 16,.const (.int .i64 1)], .o 18 .nilCheck [.T 13], .o 19 (.fieldAddr 1) [.T 18], .n (.store 1) [.T 19,.T 17]] none []) (.seq (.region [
 .o 20 (.fieldAddr 1) [.T 3], .o 21 (.loadF 0 false 1 false) [.T 20], .o 2 .move [.T 21]] none []) .ret)) [3] .skip)) (.seq (.region [ .o 22 .move [.T 0],
 .o 23 (.call 35) [.T 22,.const (.int .i64 2)]] none [23]) (.seq (.region [ .o 2 .move [.const (.str [])]] none []) .ret))))) }

/-- (*runrig/runrigref3.reader).of -/
def s67_l0 : SCode :=
 (.seq (.seq (.region [ .o 6 .move [.t 0], .o 7 (.call 34) [.T 6,.const (.str [91])]] none []) (.cond (.T 7) [] .skip [] (.exit 0))) (.block 1 (.seq (.seq
 (.region [ .o 8 .move [.t 3], .o 9 (.bin .eql) [.T 8,.const (.int .i64 3)]] none []) (.cond (.T 9) [3] (.seq (.region [ .o 10 .move [.T 0],
 .o 11 (.call 35) [.T 10,.const (.int .i64 4)]] none [11]) (.seq (.region [ .o 12 (.build [.str [],.int .i64 0] []) [], .n (.storeF 0 2) [.t 2,.T 12]] none [])
 .ret)) [] .skip)) (.seq (.region [ .o 13 .move [.t 0], .o 14 .nilCheck [.t 13], .o 15 (.fieldAddr 1) [.T 14], .o 16 (.load false 1 false) [.T 15],
 .o 17 (.bin .add) [.T 16,.const (.int .i64 1)], .o 18 .nilCheck [.T 13], .o 19 (.fieldAddr 1) [.T 18], .n (.store 1) [.T 19,.T 17]] none []) (.region [
 .o 20 .move [.T 3], .o 21 (.bin .add) [.T 20,.const (.int .i64 1)], .o 3 .move [.T 21]] none [])))))
def s67_l1 : SCode :=
 (.seq (.seq (.region [ .o 43 .move [.t 5], .o 44 .move [.t 3], .o 45 (.bin .lss) [.T 43,.T 44]] none []) (.cond (.T 45) [] .skip [0,3,5] (.exit 3))) (.seq
 (.block 4 (.region [ .o 48 .move [.t 0], .o 49 (.call 38) [.T 48,.const (.str [93])]] none [49])) (.region [ .o 46 .move [.T 5],
 .o 47 (.bin .add) [.T 46,.const (.int .i64 1)], .o 5 .move [.T 47]] none [])))
def s67 : SFunc := { fid := 67,mode := .scp,nparams := 1,nboxes := 2,clr := [],results := [.box 2 0 2 true],body :=
 (.seq (.region [ .o 2 (.allocF 0 [.str [],.int .i64 0]) []] none []) (.seq (.region [ .o 3 .move [.const (.int .i64 0)]] none []) (.seq (.block 0
 (.loop s67_l0)) (.seq (.region [ .o 22 .move [.t 3], .o 23 (.build [.str [],.int .i64 0] [(1,1)]) [.T 22], .o 4 (.allocF 1 [.str [],.int .i64 0]) [],
 .n (.storeF 1 2) [.t 4,.T 23]] none []) (.seq (.block 2 (.seq (.seq (.region [ .o 28 .move [.t 0], .o 29 (.call 34) [.T 28,.const (.str [105,110,116])],
 .o 27 .move [.T 29]] none []) (.cond (.t 27) [] .skip [27] (.region [ .o 30 .move [.t 0], .o 31 (.call 34) [.T 30,.const (.str [98,111,111,108])],
 .o 27 .move [.T 31]] none []))) (.cond (.T 27) [] (.seq (.region [ .o 32 .move [.t 0], .o 33 (.call 33) [.T 32], .o 34 (.field 1 1 false) [.T 33],
 .o 35 (.fieldAddr 0) [.t 4], .n (.storeF 1 1) [.T 35,.T 34]] none []) (.region [ .o 36 .move [.t 0], .o 37 .nilCheck [.t 36], .o 38 (.fieldAddr 1) [.T 37],
 .o 39 (.load false 1 false) [.T 38], .o 40 (.bin .add) [.T 39,.const (.int .i64 1)], .o 41 .nilCheck [.T 36], .o 42 (.fieldAddr 1) [.T 41],
 .n (.store 1) [.T 42,.T 40]] none [])) [] (.region [ .o 24 .move [.t 0], .o 25 (.call 66) [.T 24], .o 26 (.fieldAddr 0) [.t 4],
 .n (.storeF 1 1) [.T 26,.T 25]] none [])))) (.seq (.seq (.region [ .o 5 .move [.const (.int .i64 0)]] none []) (.block 3 (.loop s67_l1))) (.seq (.region [
 .o 50 (.loadF 1 true 2 false) [.T 4], .n (.storeF 0 2) [.t 2,.T 50]] none []) .ret))))))) }

/-- (*runrig/runrigref3.reader).block -/
def s68_l0 : SCode :=
 (.seq (.seq (.region [ .o 6 .move [.t 0], .o 7 (.call 32) [.T 6], .o 8 .move [.T 7], .y 9 .move [.t 0] 8, .y 10 (.call 34) [.T 9,.const (.str [125])] 8,
 .y 11 (.un .not) [.T 10] 8, .o 12 .pick [.T 8,.T 11,.const (.bool false)]] none [9,10]) (.cond (.T 12) [] .skip [] (.exit 0))) (.block 1 (.region [
 .o 13 .move [.T 3], .o 14 .move [.t 0], .o 15 (.call 97) [.T 14],
 .o 16 (.lit 9 1 [.int .i64 0,.str [],.str [],.int .i64 0,.nilSl,.nilSl,.nilSl,.int .i64 0,.int .i64 0] [0]) [.T 15], .o 17 (.append 9 136) [.T 13,.T 16],
 .o 3 .move [.T 17]] none [])))
def s68 : SFunc := { fid := 68,mode := .scp,nparams := 1,nboxes := 0,clr := [],results := [.tmp 2 true],body :=
 (.seq (.region [ .o 2 .move [.const .nilSl]] none [2]) (.seq (.region [ .o 3 .move [.const .nilSl]] none []) (.seq (.region [ .o 4 .move [.t 0],
 .o 5 (.call 96) [.T 4,.const (.str [123])]] none [5]) (.seq (.block 0 (.loop s68_l0)) (.seq (.region [ .o 18 .move [.T 0],
 .o 19 (.call 98) [.T 18,.const (.str [125])]] none [19]) (.seq (.region [ .o 20 .move [.T 3], .o 2 .move [.T 20]] none []) .ret)))))) }

/-- runrig/runrigref7.Make -/
def s69_l0 : SCode :=
 (.seq (.seq (.region [ .o 29 .move [.t 6], .o 30 .move [.t 5], .o 31 (.bin .lss) [.T 29,.T 30]] none []) (.cond (.T 31) [] .skip [6] (.exit 2))) (.seq
 (.block 3 (.seq (.region [ .o 34 .move [.t 4], .o 35 .move [.t 6], .o 36 (.indexAddr 1) [.T 34,.T 35], .o 37 (.load false 1 false) [.T 36],
 .o 38 .move [.t 4], .o 39 .move [.t 5], .o 40 (.indexAddr 1) [.T 38,.T 39], .o 41 (.load false 1 false) [.T 40],
 .o 42 (.bin .eql) [.T 37,.T 41]] (some []) []) (.cond (.T 42) [4,6] (.seq (.region [ .o 43 (.build [.nilSl,.nilSl,.nilSl,.int .i64 0] []) [],
 .o 44 (.fieldAddr 0) [.T 1], .o 45 (.loadF 0 false 1 false) [.T 44], .o 46 .move [.T 5], .o 47 (.indexAddr 3) [.T 45,.T 46], .o 48 (.fieldAddr 2) [.T 47],
 .o 49 (.load false 1 false) [.T 48], .o 50 (.call 99) [.T 49], .n (.storeF 1 4) [.t 2,.T 43], .n (.storeF 2 2) [.t 3,.T 50]] none []) .ret) [] .skip)))
 (.region [ .o 32 .move [.T 6], .o 33 (.bin .add) [.T 32,.const (.int .i64 1)], .o 6 .move [.T 33]] none [])))
def s69_l1 : SCode :=
 (.seq (.seq (.region [ .o 23 .move [.t 5], .o 24 .move [.t 4], .o 25 (.len .sl) [.T 24], .o 26 (.bin .lss) [.T 23,.T 25]] none []) (.cond (.T 26) [] .skip [5]
 (.exit 0))) (.seq (.block 1 (.seq (.region [ .o 6 .move [.const (.int .i64 0)]] none []) (.block 2 (.loop s69_l0)))) (.region [ .o 27 .move [.T 5],
 .o 28 (.bin .add) [.T 27,.const (.int .i64 1)], .o 5 .move [.T 28]] none [])))
def s69_l2 : SCode :=
 (.seq (.seq (.region [ .o 52 .move [.t 8], .o 53 (.fieldAddr 0) [.t 1], .o 54 (.loadF 0 false 1 false) [.T 53], .o 55 (.len .sl) [.T 54],
 .o 56 (.bin .lss) [.T 52,.T 55]] none []) (.cond (.T 56) [] .skip [8] (.exit 4))) (.seq (.block 5 (.seq (.region [ .o 60 .move [.t 4],
 .o 61 (.fieldAddr 0) [.t 1], .o 62 (.loadF 0 false 1 false) [.T 61], .o 63 .move [.t 8], .o 64 (.indexAddr 3) [.T 62,.T 63], .o 65 (.fieldAddr 1) [.T 64],
 .o 66 (.load false 1 false) [.T 65], .o 67 (.call 100) [.T 60,.T 66], .o 59 .move [.T 67], .o 68 (.extract 0) [.t 59], .o 69 (.extract 1) [.T 59],
 .o 10 (.allocF 4 [.int .i64 0,.int .i64 0]) [], .o 9 .move [.T 68], .n (.storeF 4 2) [.t 10,.T 69]] none []) (.seq (.seq (.region [
 .o 70 (.fieldAddr 0) [.t 10], .o 71 (.loadF 4 false 1 false) [.T 70], .o 72 (.bin .neq) [.T 71,.const (.int .i64 0)]] none []) (.cond (.T 72) [1,4,7,8,9]
 (.seq (.region [ .o 73 (.build [.nilSl,.nilSl,.nilSl,.int .i64 0] []) [], .o 74 (.loadF 4 true 2 false) [.T 10], .n (.storeF 1 4) [.t 2,.T 73],
 .n (.storeF 2 2) [.t 3,.T 74]] (some []) []) .ret) [10] .skip)) (.region [ .o 75 (.fieldAddr 0) [.t 7], .o 76 (.loadF 3 false 1 true) [.T 75],
 .o 77 .move [.t 4], .o 78 .move [.t 8], .o 79 (.indexAddr 1) [.T 77,.T 78], .o 80 (.load false 1 false) [.T 79], .o 81 .move [.T 9],
 .o 82 (.build [.str [],.nilSl] [(0,1),(1,1)]) [.T 80,.T 81], .o 83 (.lit 2 1 [.str [],.nilSl] [0]) [.T 82], .o 84 (.append 2 40) [.T 76,.T 83],
 .o 85 (.fieldAddr 0) [.t 7], .n (.storeF 3 1) [.T 85,.T 84]] (some []) [])))) (.region [ .o 57 .move [.T 8], .o 58 (.bin .add) [.T 57,.const (.int .i64 1)],
 .o 8 .move [.T 58]] none [])))
def s69_l3 : SCode :=
 (.seq (.seq (.region [ .o 112 .move [.t 15], .o 113 .move [.t 13], .o 114 (.bin .lss) [.T 112,.T 113]] none []) (.cond (.T 114) [] .skip [15] (.exit 8)))
 (.seq (.block 9 (.seq (.region [ .o 117 (.fieldAddr 2) [.t 1], .o 118 (.loadF 0 false 1 false) [.T 117], .o 119 .move [.t 15],
 .o 120 (.indexAddr 7) [.T 118,.T 119], .o 121 (.fieldAddr 0) [.T 120], .o 122 (.load false 1 false) [.T 121], .o 123 (.fieldAddr 0) [.t 14],
 .o 124 (.loadF 6 false 1 false) [.T 123], .o 125 (.bin .eql) [.T 122,.T 124]] (some []) []) (.cond (.T 125) [1,4,7,13,15] (.seq (.region [
 .o 126 (.build [.nilSl,.nilSl,.nilSl,.int .i64 0] []) [], .o 127 (.fieldAddr 6) [.T 14], .o 128 (.loadF 6 false 1 false) [.T 127], .o 129 (.call 99) [.T 128],
 .n (.storeF 1 4) [.t 2,.T 126], .n (.storeF 2 2) [.t 3,.T 129]] none []) .ret) [] .skip))) (.region [ .o 115 .move [.T 15],
 .o 116 (.bin .add) [.T 115,.const (.int .i64 1)], .o 15 .move [.T 116]] none [])))
def s69_l4 : SCode :=
 (.seq (.seq (.region [ .o 100 .move [.t 13], .o 101 (.fieldAddr 2) [.t 1], .o 102 (.loadF 0 false 1 false) [.T 101], .o 103 (.len .sl) [.T 102],
 .o 104 (.bin .lss) [.T 100,.T 103]] none []) (.cond (.T 104) [] .skip [1,4,13] (.exit 6))) (.seq (.block 7 (.seq (.region [ .o 107 (.fieldAddr 2) [.t 1],
 .o 108 (.loadF 0 false 1 false) [.T 107], .o 109 .move [.t 13], .o 110 (.indexAddr 7) [.T 108,.T 109], .o 111 (.load true 7 false) [.T 110],
 .o 14 (.allocF 6 [.str [],.nilSl,.bool false,.str [],.int .i64 0,.nilSl,.int .i64 0]) [], .n (.storeF 6 7) [.t 14,.T 111]] none []) (.seq (.seq (.region [
 .o 15 .move [.const (.int .i64 0)]] none []) (.block 8 (.loop s69_l3))) (.seq (.region [ .o 131 .move [.t 4], .o 132 (.fieldAddr 1) [.t 14],
 .o 133 (.loadF 6 false 1 false) [.T 132], .o 134 (.call 100) [.T 131,.T 133], .o 130 .move [.T 134], .o 135 (.extract 0) [.t 130],
 .o 136 (.extract 1) [.T 130], .o 17 (.allocF 7 [.int .i64 0,.int .i64 0]) [], .o 16 .move [.T 135], .n (.storeF 7 2) [.t 17,.T 136]] none []) (.seq (.seq
 (.region [ .o 137 (.fieldAddr 0) [.t 17], .o 138 (.loadF 7 false 1 false) [.T 137], .o 139 (.bin .neq) [.T 138,.const (.int .i64 0)]] none [])
 (.cond (.T 139) [1,4,7,13,14,16] (.seq (.region [ .o 140 (.build [.nilSl,.nilSl,.nilSl,.int .i64 0] []) [], .o 141 (.loadF 7 true 2 false) [.T 17],
 .n (.storeF 1 4) [.t 2,.T 140], .n (.storeF 2 2) [.t 3,.T 141]] (some []) []) .ret) [17] .skip)) (.seq (.region [ .o 142 (.fieldAddr 0) [.t 14],
 .o 143 (.loadF 6 false 1 false) [.T 142], .o 144 .move [.t 16], .o 145 (.fieldAddr 2) [.t 14], .o 146 (.loadF 6 false 1 false) [.T 145],
 .o 147 (.build [.str [],.nilSl,.bool false,.int .i64 0,.int .i64 0,.int .i64 0] [(0,1),(1,1),(2,1)]) [.T 143,.T 144,.T 146],
 .o 18 (.allocF 8 [.str [],.nilSl,.bool false,.int .i64 0,.int .i64 0,.int .i64 0]) [], .n (.storeF 8 6) [.t 18,.T 147]] none []) (.seq (.seq (.region [
 .o 148 (.fieldAddr 2) [.t 14], .o 149 (.loadF 6 false 1 false) [.T 148]] none []) (.cond (.T 149) [] (.seq (.region [ .o 151 .move [.t 4],
 .o 152 (.fieldAddr 3) [.t 14], .o 153 (.loadF 6 true 2 false) [.T 152], .o 154 (.call 101) [.T 151,.T 153], .o 150 .move [.T 154],
 .o 155 (.extract 0) [.t 150], .o 156 (.extract 1) [.T 150], .o 19 (.allocF 9 [.int .i64 0,.int .i64 0,.int .i64 0]) [], .n (.storeF 9 3) [.t 19,.T 155],
 .o 20 .move [.T 156]] none []) (.seq (.seq (.region [ .o 157 .move [.T 20], .o 158 (.un .not) [.T 157]] none []) (.cond (.T 158) [1,4,7,13,16,18,19] (.seq
 (.region [ .o 159 (.build [.nilSl,.nilSl,.nilSl,.int .i64 0] []) [], .o 160 (.fieldAddr 6) [.T 14], .o 161 (.loadF 6 false 1 false) [.T 160],
 .o 162 (.call 99) [.T 161], .n (.storeF 1 4) [.t 2,.T 159], .n (.storeF 2 2) [.t 3,.T 162]] none []) .ret) [] .skip)) (.region [
 .o 163 (.loadF 9 true 3 false) [.T 19], .o 164 (.fieldAddr 3) [.t 18], .n (.storeF 8 3) [.T 164,.T 163]] none []))) [] .skip)) (.seq (.seq (.region [
 .o 165 (.fieldAddr 0) [.t 14], .o 166 (.loadF 6 false 1 false) [.T 165], .o 167 (.bin .eql) [.T 166,.const (.str [109,97,105,110])], .o 168 .move [.T 167],
 .y 169 .move [.T 16] 168, .y 170 (.len .sl) [.T 169] 168, .y 171 (.bin .eql) [.T 170,.const (.int .i64 0)] 168,
 .o 172 .pick [.T 168,.T 171,.const (.bool false)], .o 173 .move [.T 172], .y 174 (.fieldAddr 2) [.T 14] 173, .y 175 (.loadF 6 false 1 false) [.T 174] 173,
 .y 176 (.un .not) [.T 175] 173, .o 177 .pick [.T 173,.T 176,.const (.bool false)]] none [14,16,169,170,174,175]) (.cond (.T 177) [] (.region [
 .o 178 .move [.t 13], .o 179 (.fieldAddr 3) [.t 7], .n (.storeF 3 1) [.T 179,.T 178]] none []) [] .skip)) (.region [ .o 180 (.fieldAddr 2) [.t 7],
 .o 181 (.loadF 3 false 1 true) [.T 180], .o 182 (.loadF 8 true 6 false) [.T 18],
 .o 183 (.lit 6 1 [.str [],.nilSl,.bool false,.int .i64 0,.int .i64 0,.int .i64 0] [0]) [.T 182], .o 184 (.append 6 72) [.T 181,.T 183],
 .o 185 (.fieldAddr 2) [.t 7], .n (.storeF 3 1) [.T 185,.T 184]] none []))))))))) (.region [ .o 105 .move [.T 13],
 .o 106 (.bin .add) [.T 105,.const (.int .i64 1)], .o 13 .move [.T 106]] none [])))
def s69 : SFunc := { fid := 69,mode := .pure,nparams := 1,nboxes := 10,clr := [],results := [.box 2 1 4 true,.box 3 2 2 true],body :=
 (.seq (.region [ .o 1 (.boxF 0 3) [.T 0], .o 2 (.allocF 1 [.nilSl,.nilSl,.nilSl,.int .i64 0]) [], .o 3 (.allocF 2 [.int .i64 0,.int .i64 0]) []] none [])
 (.seq (.region [ .o 21 (.loadF 0 true 3 false) [.t 1], .o 22 (.call 70) [.T 21], .o 4 .move [.T 22]] none []) (.seq (.seq (.region [
 .o 5 .move [.const (.int .i64 0)]] none []) (.block 0 (.loop s69_l1))) (.seq (.region [
 .o 51 (.build [.nilSl,.nilSl,.nilSl,.int .i64 0] [(3,1)]) [.const (.int .i64 (-1))], .o 7 (.allocF 3 [.nilSl,.nilSl,.nilSl,.int .i64 0]) [],
 .n (.storeF 3 4) [.t 7,.T 51]] none []) (.seq (.seq (.region [ .o 8 .move [.const (.int .i64 0)]] none []) (.block 4 (.loop s69_l2))) (.seq (.region [
 .o 87 .move [.t 4], .o 88 (.fieldAddr 1) [.t 1], .o 89 (.loadF 0 false 1 false) [.T 88], .o 90 (.call 100) [.T 87,.T 89], .o 86 .move [.T 90],
 .o 91 (.extract 0) [.t 86], .o 92 (.extract 1) [.T 86], .o 12 (.allocF 5 [.int .i64 0,.int .i64 0]) [], .o 11 .move [.T 91],
 .n (.storeF 5 2) [.t 12,.T 92]] none []) (.seq (.seq (.region [ .o 93 (.fieldAddr 0) [.t 12], .o 94 (.loadF 5 false 1 false) [.T 93],
 .o 95 (.bin .neq) [.T 94,.const (.int .i64 0)]] none []) (.cond (.T 95) [1,4,7,11] (.seq (.region [ .o 96 (.build [.nilSl,.nilSl,.nilSl,.int .i64 0] []) [],
 .o 97 (.loadF 5 true 2 false) [.T 12], .n (.storeF 1 4) [.t 2,.T 96], .n (.storeF 2 2) [.t 3,.T 97]] (some []) []) .ret) [12] .skip)) (.seq (.region [
 .o 98 .move [.T 11], .o 99 (.fieldAddr 1) [.t 7], .n (.storeF 3 1) [.T 99,.T 98]] none []) (.seq (.seq (.region [ .o 13 .move [.const (.int .i64 0)]] none [])
 (.block 6 (.loop s69_l4))) (.seq (.seq (.region [ .o 186 (.fieldAddr 3) [.t 7], .o 187 (.loadF 3 false 1 false) [.T 186],
 .o 188 (.bin .lss) [.T 187,.const (.int .i64 0)]] none []) (.cond (.T 188) [7] (.seq (.region [ .o 189 (.build [.nilSl,.nilSl,.nilSl,.int .i64 0] []) [],
 .o 190 (.call 99) [.const (.int .i64 0)], .n (.storeF 1 4) [.t 2,.T 189], .n (.storeF 2 2) [.t 3,.T 190]] none []) .ret) [] .skip)) (.seq (.region [
 .o 191 (.loadF 3 true 4 false) [.T 7], .o 192 (.build [.int .i64 0,.int .i64 0] []) [], .n (.storeF 1 4) [.t 2,.T 191],
 .n (.storeF 2 2) [.t 3,.T 192]] none []) .ret))))))))))) }

/-- runrig/runrigref7.names -/
def s70_l0 : SCode :=
 (.seq (.seq (.region [ .o 5 .move [.t 4], .o 6 (.fieldAddr 0) [.t 1], .o 7 (.loadF 0 false 1 false) [.T 6], .o 8 (.len .sl) [.T 7],
 .o 9 (.bin .lss) [.T 5,.T 8]] none []) (.cond (.T 9) [] .skip [1,4] (.exit 0))) (.seq (.block 1 (.region [ .o 12 .move [.T 3], .o 13 (.fieldAddr 0) [.t 1],
 .o 14 (.loadF 0 false 1 false) [.T 13], .o 15 .move [.t 4], .o 16 (.indexAddr 3) [.T 14,.T 15], .o 17 (.fieldAddr 0) [.T 16],
 .o 18 (.load false 1 false) [.T 17], .o 19 (.lit 1 1 [.str []] [0]) [.T 18], .o 20 (.append 1 16) [.T 12,.T 19], .o 3 .move [.T 20]] none [])) (.region [
 .o 10 .move [.T 4], .o 11 (.bin .add) [.T 10,.const (.int .i64 1)], .o 4 .move [.T 11]] none [])))
def s70 : SFunc := { fid := 70,mode := .pure,nparams := 1,nboxes := 1,clr := [],results := [.tmp 2 true],body :=
 (.seq (.region [ .o 1 (.boxF 0 3) [.T 0], .o 2 .move [.const .nilSl]] none [2]) (.seq (.region [ .o 3 .move [.const .nilSl]] none []) (.seq (.seq (.region [
 .o 4 .move [.const (.int .i64 0)]] none []) (.block 0 (.loop s70_l0))) (.seq (.region [ .o 21 .move [.T 3], .o 2 .move [.T 21]] none []) .ret)))) }

/-- (*runrig/runrigref7.checker).stmts -/
def s71_l0 : SCode :=
 (.seq (.seq (.region [ .o 7 .move [.t 6], .o 8 .move [.t 1], .o 9 (.len .sl) [.T 8], .o 10 (.bin .lss) [.T 7,.T 9], .o 11 .move [.T 10],
 .y 12 .move [.t 0] 11, .y 13 (.call 72) [.T 12] 11, .o 14 .pick [.T 11,.T 13,.const (.bool false)]] none [12]) (.cond (.T 14) [] .skip [0,1,6] (.exit 0)))
 (.seq (.block 1 (.region [ .o 17 .move [.T 5], .o 18 .move [.t 0], .o 19 .move [.t 1], .o 20 .move [.t 6], .o 21 (.indexAddr 9) [.T 19,.T 20],
 .o 22 (.load true 9 false) [.T 21], .o 23 (.call 102) [.T 18,.T 22],
 .o 24 (.lit 9 1 [.int .i64 0,.str [],.str [],.int .i64 0,.nilSl,.nilSl,.nilSl,.int .i64 0,.int .i64 0] [0]) [.T 23], .o 25 (.append 9 136) [.T 17,.T 24],
 .o 5 .move [.T 25]] none [])) (.region [ .o 15 .move [.T 6], .o 16 (.bin .add) [.T 15,.const (.int .i64 1)], .o 6 .move [.T 16]] none [])))
def s71 : SFunc := { fid := 71,mode := .scp,nparams := 2,nboxes := 0,clr := [],results := [.tmp 4 true],body :=
 (.seq (.region [ .o 4 .move [.const .nilSl]] none [4]) (.seq (.region [ .o 5 .move [.const .nilSl]] none []) (.seq (.seq (.region [
 .o 6 .move [.const (.int .i64 0)]] none []) (.block 0 (.loop s71_l0))) (.seq (.region [ .o 26 .move [.T 5], .o 4 .move [.T 26]] none []) .ret)))) }

/-- (*runrig/runrigref7.checker).ok -/

def s72 : SFunc := { fid := 72,mode := .scp,nparams := 1,nboxes := 0,clr := [],results := [.tmp 2 false],body :=
 (.seq (.region [ .o 2 .move [.const (.bool false)]] none [2]) (.seq (.region [ .o 3 .move [.T 0], .o 4 .nilCheck [.T 3], .o 5 (.fieldAddr 12) [.T 4],
 .o 6 (.fieldAddr 0) [.T 5], .o 7 (.load false 1 false) [.T 6], .o 8 (.bin .eql) [.T 7,.const (.int .i64 0)], .o 2 .move [.T 8]] none []) .ret)) }

/-- (*runrig/runrigref7.surer).walk -/
def s73_l0 : SCode :=
 (.seq (.seq (.region [ .o 21 .move [.t 6], .o 22 (.fieldAddr 4) [.t 5], .o 23 (.loadF 0 false 1 false) [.T 22], .o 24 (.len .sl) [.T 23],
 .o 25 (.bin .lss) [.T 21,.T 24]] none []) (.cond (.T 25) [] .skip [6] (.exit 2))) (.seq (.block 3 (.region [ .o 28 .move [.t 0], .o 29 (.fieldAddr 4) [.t 5],
 .o 30 (.loadF 0 false 1 false) [.T 29], .o 31 .move [.t 6], .o 32 (.indexAddr 11) [.T 30,.T 31], .o 33 (.load true 11 false) [.T 32],
 .o 34 (.call 103) [.T 28,.T 33]] none [34])) (.region [ .o 26 .move [.T 6], .o 27 (.bin .add) [.T 26,.const (.int .i64 1)], .o 6 .move [.T 27]] none [])))
def s73_l1 : SCode :=
 (.seq (.seq (.region [ .o 109 .move [.t 10], .o 110 .move [.t 0], .o 111 .nilCheck [.T 110], .o 112 (.fieldAddr 0) [.T 111],
 .o 113 (.load false 1 false) [.T 112], .o 114 (.len .sl) [.T 113], .o 115 (.bin .lss) [.T 109,.T 114]] none []) (.cond (.T 115) [] .skip [9,10] (.exit 5)))
 (.seq (.block 6 (.region [ .o 118 .move [.t 0], .o 119 .nilCheck [.T 118], .o 120 (.fieldAddr 0) [.T 119], .o 121 (.load false 1 false) [.T 120],
 .o 122 .move [.t 10], .o 123 .move [.t 0], .o 124 .nilCheck [.T 123], .o 125 (.fieldAddr 0) [.T 124], .o 126 (.load false 1 false) [.T 125],
 .o 127 .move [.t 10], .o 128 (.indexAddr 1) [.T 126,.T 127], .o 129 (.load false 1 false) [.T 128], .o 130 .move [.T 129], .y 131 .move [.t 9] 130,
 .y 132 .move [.t 10] 130, .y 133 (.indexAddr 1) [.T 131,.T 132] 130, .y 134 (.load false 1 false) [.T 133] 130,
 .o 135 .pick [.t 130,.T 134,.const (.bool false)], .o 136 (.indexAddr 1) [.T 121,.T 122], .n (.store 1) [.T 136,.T 135]] (some []) [130,131,132,133]))
 (.region [ .o 116 .move [.T 10], .o 117 (.bin .add) [.T 116,.const (.int .i64 1)], .o 10 .move [.T 117]] none [])))
def s73_l2 : SCode :=
 (.seq (.seq (.region [ .o 11 .move [.t 4], .o 12 .move [.t 1], .o 13 (.len .sl) [.T 12], .o 14 (.bin .lss) [.T 11,.T 13]] none []) (.cond (.T 14) []
 .skip [0,1,4] (.exit 0))) (.seq (.block 1 (.seq (.region [ .o 17 .move [.t 1], .o 18 .move [.t 4], .o 19 (.indexAddr 9) [.T 17,.T 18],
 .o 20 (.load true 9 false) [.T 19], .o 5 (.allocF 0 [.int .i64 0,.str [],.str [],.int .i64 0,.nilSl,.nilSl,.nilSl,.int .i64 0,.int .i64 0]) [],
 .n (.storeF 0 9) [.t 5,.T 20]] none []) (.seq (.seq (.region [ .o 6 .move [.const (.int .i64 0)]] none []) (.block 2 (.loop s73_l0))) (.seq (.region [
 .o 35 (.fieldAddr 0) [.t 5], .o 36 (.loadF 0 false 1 false) [.T 35]] none []) (.block 4 (.seq (.region [ .o 38 (.bin .eql) [.t 36,.const (.int .i64 1)],
 .o 37 .move [.T 38]] none []) (.cond (.T 37) [36] (.region [ .o 39 .move [.t 0], .o 40 .nilCheck [.T 39], .o 41 (.fieldAddr 0) [.T 40],
 .o 42 (.load false 1 false) [.T 41], .o 43 (.fieldAddr 8) [.T 5], .o 44 (.loadF 0 false 1 false) [.T 43], .o 45 (.indexAddr 1) [.T 42,.T 44],
 .n (.store 1) [.T 45,.const (.bool false)]] (some []) []) [] (.seq (.region [ .o 47 (.bin .eql) [.t 36,.const (.int .i64 2)], .o 46 .move [.T 47]] none [])
 (.cond (.T 46) [36] (.region [ .o 48 .move [.t 0], .o 49 .nilCheck [.T 48], .o 50 (.fieldAddr 0) [.T 49], .o 51 (.load false 1 false) [.T 50],
 .o 52 (.fieldAddr 8) [.T 5], .o 53 (.loadF 0 false 1 false) [.T 52], .o 54 (.indexAddr 1) [.T 51,.T 53],
 .n (.store 1) [.T 54,.const (.bool true)]] (some []) []) [] (.seq (.region [ .o 56 (.bin .eql) [.t 36,.const (.int .i64 3)], .o 55 .move [.T 56]] none [])
 (.cond (.T 55) [36] (.seq (.region [ .o 57 (.fieldAddr 8) [.t 5], .o 58 (.loadF 0 false 1 false) [.T 57],
 .o 59 (.bin .geq) [.T 58,.const (.int .i64 0)]] none []) (.cond (.T 59) [] (.region [ .o 60 .move [.t 0], .o 61 .nilCheck [.T 60],
 .o 62 (.fieldAddr 0) [.T 61], .o 63 (.load false 1 false) [.T 62], .o 64 (.fieldAddr 8) [.T 5], .o 65 (.loadF 0 false 1 false) [.T 64],
 .o 66 (.indexAddr 1) [.T 63,.T 65], .n (.store 1) [.T 66,.const (.bool true)]] (some []) []) [5] .skip)) [] (.seq (.region [
 .o 68 (.bin .eql) [.t 36,.const (.int .i64 7)], .o 67 .move [.T 68]] none []) (.cond (.T 67) [5,36] (.region [ .o 69 .move [.t 0],
 .o 70 (.call 104) [.T 69]] none [70]) [] (.seq (.region [ .o 72 (.bin .eql) [.t 36,.const (.int .i64 6)], .o 71 .move [.T 72]] none []) (.cond (.T 71) [36]
 (.seq (.region [ .o 73 .move [.t 0], .o 74 .nilCheck [.T 73], .o 75 (.fieldAddr 0) [.T 74], .o 76 (.load false 1 false) [.T 75],
 .o 77 (.appendM 1 1) [.const .nilSl,.T 76], .o 7 .move [.T 77]] none []) (.seq (.region [ .o 78 .move [.t 0], .o 79 (.fieldAddr 5) [.T 5],
 .o 80 (.loadF 0 false 1 false) [.T 79], .o 81 (.call 73) [.T 78,.T 80]] none [81]) (.region [ .o 82 .move [.t 0], .o 83 .move [.T 7], .o 84 .nilCheck [.T 82],
 .o 85 (.fieldAddr 0) [.T 84], .n (.store 1) [.T 85,.T 83]] none []))) [] (.seq (.region [ .o 87 (.bin .eql) [.T 36,.const (.int .i64 5)],
 .o 86 .move [.T 87]] none []) (.cond (.T 86) [] (.seq (.region [ .o 88 .move [.t 0], .o 89 .nilCheck [.T 88], .o 90 (.fieldAddr 0) [.T 89],
 .o 91 (.load false 1 false) [.T 90], .o 92 (.appendM 1 1) [.const .nilSl,.T 91], .o 8 .move [.T 92]] none []) (.seq (.region [ .o 93 .move [.t 0],
 .o 94 (.fieldAddr 5) [.t 5], .o 95 (.loadF 0 false 1 false) [.T 94], .o 96 (.call 73) [.T 93,.T 95]] none [96]) (.seq (.region [ .o 97 .move [.t 0],
 .o 98 .nilCheck [.T 97], .o 99 (.fieldAddr 0) [.T 98], .o 100 (.load false 1 false) [.T 99], .o 9 .move [.T 100]] none []) (.seq (.region [
 .o 101 .move [.t 0], .o 102 .move [.T 8], .o 103 .nilCheck [.T 101], .o 104 (.fieldAddr 0) [.T 103], .n (.store 1) [.T 104,.T 102]] none []) (.seq (.region [
 .o 105 .move [.t 0], .o 106 (.fieldAddr 6) [.T 5], .o 107 (.loadF 0 false 1 false) [.T 106], .o 108 (.call 73) [.T 105,.T 107]] none [108]) (.seq (.region [
 .o 10 .move [.const (.int .i64 0)]] none []) (.block 5 (.loop s73_l1)))))))) [5] .skip))))))))))))))))) (.region [ .o 15 .move [.T 4],
 .o 16 (.bin .add) [.T 15,.const (.int .i64 1)], .o 4 .move [.T 16]] none [])))
def s73 : SFunc := { fid := 73,mode := .scp,nparams := 2,nboxes := 1,clr := [],results := [],body :=
 (.seq (.region [ .o 4 .move [.const (.int .i64 0)]] none []) (.block 0 (.loop s73_l2))) }

end Code19
