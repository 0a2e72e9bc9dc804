/- The annotated code of the loaded program,printed by wip/tools/gen.py. -/
import Derived.Test.YtlcehclecbakiaaGreatCode1

set_option maxRecDepth 100000
namespace Code19
open Ax Go

/-- (*runrig/runrigref13.maker).stmt -/

def s74 : SFunc := { fid := 74,mode := .scp,nparams := 2,nboxes := 1,clr := [],results := [],body :=
 (.seq (.region [ .o 3 (.boxF 0 9) [.T 1]] none []) (.seq (.region [ .o 14 (.fieldAddr 0) [.t 3], .o 15 (.loadF 0 false 1 false) [.T 14]] none []) (.block 0
 (.seq (.seq (.region [ .o 17 (.bin .eql) [.t 15,.const (.int .i64 2)], .o 16 .move [.T 17]] none []) (.cond (.t 16) [] .skip [16] (.region [
 .o 18 (.bin .eql) [.t 15,.const (.int .i64 3)], .o 16 .move [.T 18]] none []))) (.cond (.T 16) [15] (.seq (.region [ .o 19 .move [.t 0],
 .o 20 (.fieldAddr 4) [.t 3], .o 21 (.loadF 0 false 1 false) [.T 20], .o 22 (.indexAddr 11) [.T 21,.const (.int .i64 0)], .o 23 (.load true 11 false) [.T 22],
 .o 24 (.call 105) [.T 19,.T 23], .o 4 .move [.T 24]] none []) (.seq (.region [ .o 25 (.fieldAddr 8) [.t 3], .o 26 (.loadF 0 false 1 false) [.T 25],
 .o 27 (.bin .lss) [.T 26,.const (.int .i64 0)]] none []) (.cond (.T 27) [] (.region [ .o 28 .move [.T 0], .o 29 .move [.T 4], .o 30 (.fieldAddr 8) [.T 3],
 .o 31 (.loadF 0 false 1 false) [.T 30], .o 32 (.bin .sub) [.const (.int .i64 (-1)),.T 31],
 .o 33 (.build [.int .i64 0,.int .i64 0,.int .i64 0,.int .i64 0,.int .i64 0,.nilSl] [(0,1),(1,1),(4,1)]) [.const (.int .i64 20),.T 29,.T 32],
 .o 34 (.call 75) [.T 28,.T 33]] none [34]) [] (.region [ .o 35 .move [.T 0], .o 36 (.fieldAddr 8) [.T 3], .o 37 (.loadF 0 false 1 false) [.T 36],
 .o 38 .move [.T 4],
 .o 39 (.build [.int .i64 0,.int .i64 0,.int .i64 0,.int .i64 0,.int .i64 0,.nilSl] [(0,1),(1,1),(2,1)]) [.const (.int .i64 3),.T 37,.T 38],
 .o 40 (.call 75) [.T 35,.T 39]] none [40])))) [] (.seq (.region [ .o 42 (.bin .eql) [.t 15,.const (.int .i64 4)], .o 41 .move [.T 42]] none [])
 (.cond (.T 41) [15] (.seq (.region [ .o 43 .move [.t 0], .o 44 (.fieldAddr 4) [.t 3], .o 45 (.loadF 0 false 1 false) [.T 44],
 .o 46 (.indexAddr 11) [.T 45,.const (.int .i64 0)], .o 47 (.fieldAddr 5) [.T 46], .o 48 (.load false 1 false) [.T 47], .o 49 (.call 106) [.T 43,.T 48],
 .o 5 .move [.T 49]] none []) (.seq (.region [ .o 50 .move [.t 0], .o 51 (.fieldAddr 4) [.t 3], .o 52 (.loadF 0 false 1 false) [.T 51],
 .o 53 (.indexAddr 11) [.T 52,.const (.int .i64 1)], .o 54 (.load true 11 false) [.T 53], .o 55 (.call 105) [.T 50,.T 54], .o 6 .move [.T 55]] none []) (.seq
 (.region [ .o 56 (.fieldAddr 4) [.t 3], .o 57 (.loadF 0 false 1 false) [.T 56], .o 58 (.indexAddr 11) [.T 57,.const (.int .i64 0)],
 .o 59 (.fieldAddr 0) [.T 58], .o 60 (.load false 1 false) [.T 59], .o 61 (.bin .eql) [.T 60,.const (.int .i64 5)]] none []) (.cond (.T 61) [] (.region [
 .o 62 .move [.T 0], .o 63 .move [.T 5], .o 64 (.indexAddr 1) [.T 63,.const (.int .i64 0)], .o 65 (.load false 1 false) [.T 64], .o 66 .move [.T 6],
 .o 67 (.fieldAddr 4) [.T 3], .o 68 (.loadF 0 false 1 false) [.T 67], .o 69 (.indexAddr 11) [.T 68,.const (.int .i64 0)], .o 70 (.fieldAddr 10) [.T 69],
 .o 71 (.load false 1 false) [.T 70],
 .o 72 (.build [.int .i64 0,.int .i64 0,.int .i64 0,.int .i64 0,.int .i64 0,.nilSl] [(0,1),(1,1),(2,1),(3,1)]) [.const (.int .i64 7),.T 65,.T 66,.T 71],
 .o 73 (.call 75) [.T 62,.T 72]] (some []) [73]) [3] (.region [ .o 74 .move [.T 0], .o 75 .move [.t 5], .o 76 (.indexAddr 1) [.T 75,.const (.int .i64 0)],
 .o 77 (.load false 1 false) [.T 76], .o 78 .move [.t 5], .o 79 (.indexAddr 1) [.T 78,.const (.int .i64 1)], .o 80 (.load false 1 false) [.T 79],
 .o 81 .move [.T 6],
 .o 82 (.build [.int .i64 0,.int .i64 0,.int .i64 0,.int .i64 0,.int .i64 0,.nilSl] [(0,1),(1,1),(2,1),(3,1)]) [.const (.int .i64 9),.T 77,.T 80,.T 81],
 .o 83 (.call 75) [.T 74,.T 82]] (some []) [5,83]))))) [] (.seq (.region [ .o 85 (.bin .eql) [.t 15,.const (.int .i64 5)], .o 84 .move [.T 85]] none [])
 (.cond (.T 84) [15] (.seq (.region [ .o 86 .move [.t 0], .o 87 (.fieldAddr 4) [.t 3], .o 88 (.loadF 0 false 1 false) [.T 87],
 .o 89 (.indexAddr 11) [.T 88,.const (.int .i64 0)], .o 90 (.load true 11 false) [.T 89], .o 91 (.call 105) [.T 86,.T 90], .o 7 .move [.T 91]] none []) (.seq
 (.region [ .o 92 .move [.t 0], .o 93 .move [.T 7],
 .o 94 (.build [.int .i64 0,.int .i64 0,.int .i64 0,.int .i64 0,.int .i64 0,.nilSl] [(0,1),(1,1)]) [.const (.int .i64 17),.T 93],
 .o 95 (.call 75) [.T 92,.T 94], .o 8 .move [.T 95]] none []) (.seq (.region [ .o 96 .move [.t 0], .o 97 .nilCheck [.T 96], .o 98 (.fieldAddr 6) [.T 97],
 .o 99 (.fieldAddr 6) [.T 98], .o 100 (.load false 1 false) [.T 99], .o 101 .move [.t 8], .o 102 .move [.t 8],
 .o 103 (.bin .add) [.T 102,.const (.int .i64 1)], .o 104 (.indexAddr 6) [.T 100,.T 101], .o 105 (.fieldAddr 4) [.T 104],
 .n (.store 1) [.T 105,.T 103]] none []) (.seq (.region [ .o 106 .move [.t 0], .o 107 (.fieldAddr 5) [.t 3], .o 108 (.loadF 0 false 1 false) [.T 107],
 .o 109 (.call 44) [.T 106,.T 108]] none [109]) (.seq (.region [ .o 110 .move [.t 0],
 .o 111 (.build [.int .i64 0,.int .i64 0,.int .i64 0,.int .i64 0,.int .i64 0,.nilSl] [(0,1)]) [.const (.int .i64 16)], .o 112 (.call 75) [.T 110,.T 111],
 .o 9 .move [.T 112]] none []) (.seq (.region [ .o 113 .move [.t 0], .o 114 .nilCheck [.T 113], .o 115 (.fieldAddr 6) [.T 114], .o 116 (.fieldAddr 6) [.T 115],
 .o 117 (.load false 1 false) [.T 116], .o 118 .move [.T 8], .o 119 .move [.t 9], .o 120 (.bin .add) [.T 119,.const (.int .i64 1)],
 .o 121 (.indexAddr 6) [.T 117,.T 118], .o 122 (.fieldAddr 3) [.T 121], .n (.store 1) [.T 122,.T 120]] none []) (.seq (.region [ .o 123 .move [.t 0],
 .o 124 (.fieldAddr 6) [.T 3], .o 125 (.loadF 0 false 1 false) [.T 124], .o 126 (.call 44) [.T 123,.T 125]] none [126]) (.region [ .o 127 .move [.t 0],
 .o 128 .nilCheck [.T 127], .o 129 (.fieldAddr 6) [.T 128], .o 130 (.fieldAddr 6) [.T 129], .o 131 (.load false 1 false) [.T 130], .o 132 .move [.T 9],
 .o 133 .move [.t 0], .o 134 .nilCheck [.T 133], .o 135 (.fieldAddr 6) [.T 134], .o 136 (.fieldAddr 6) [.T 135], .o 137 (.load false 1 false) [.T 136],
 .o 138 (.len .sl) [.T 137], .o 139 (.indexAddr 6) [.T 131,.T 132], .o 140 (.fieldAddr 4) [.T 139], .n (.store 1) [.T 140,.T 138]] (some []) [0])))))))) []
 (.seq (.region [ .o 142 (.bin .eql) [.t 15,.const (.int .i64 6)], .o 141 .move [.T 142]] none []) (.cond (.T 141) [15] (.seq (.region [ .o 143 .move [.t 0],
 .o 144 .nilCheck [.T 143], .o 145 (.fieldAddr 6) [.T 144], .o 146 (.fieldAddr 6) [.T 145], .o 147 (.load false 1 false) [.T 146], .o 148 (.len .sl) [.T 147],
 .o 10 .move [.T 148]] none []) (.seq (.region [ .o 149 .move [.t 0], .o 150 (.fieldAddr 4) [.t 3], .o 151 (.loadF 0 false 1 false) [.T 150],
 .o 152 (.indexAddr 11) [.T 151,.const (.int .i64 0)], .o 153 (.load true 11 false) [.T 152], .o 154 (.call 105) [.T 149,.T 153],
 .o 11 .move [.T 154]] none []) (.seq (.region [ .o 155 .move [.t 0], .o 156 .move [.T 11],
 .o 157 (.build [.int .i64 0,.int .i64 0,.int .i64 0,.int .i64 0,.int .i64 0,.nilSl] [(0,1),(1,1)]) [.const (.int .i64 17),.T 156],
 .o 158 (.call 75) [.T 155,.T 157], .o 12 .move [.T 158]] none []) (.seq (.region [ .o 159 .move [.t 0], .o 160 .nilCheck [.T 159],
 .o 161 (.fieldAddr 6) [.T 160], .o 162 (.fieldAddr 6) [.T 161], .o 163 (.load false 1 false) [.T 162], .o 164 .move [.t 12], .o 165 .move [.t 12],
 .o 166 (.bin .add) [.T 165,.const (.int .i64 1)], .o 167 (.indexAddr 6) [.T 163,.T 164], .o 168 (.fieldAddr 4) [.T 167],
 .n (.store 1) [.T 168,.T 166]] none []) (.seq (.region [ .o 169 .move [.t 0], .o 170 (.fieldAddr 5) [.T 3], .o 171 (.loadF 0 false 1 false) [.T 170],
 .o 172 (.call 44) [.T 169,.T 171]] none [172]) (.seq (.region [ .o 173 .move [.t 0], .o 174 .move [.T 10],
 .o 175 (.build [.int .i64 0,.int .i64 0,.int .i64 0,.int .i64 0,.int .i64 0,.nilSl] [(0,1),(4,1)]) [.const (.int .i64 16),.T 174],
 .o 176 (.call 75) [.T 173,.T 175]] none [176]) (.region [ .o 177 .move [.t 0], .o 178 .nilCheck [.T 177], .o 179 (.fieldAddr 6) [.T 178],
 .o 180 (.fieldAddr 6) [.T 179], .o 181 (.load false 1 false) [.T 180], .o 182 .move [.T 12], .o 183 .move [.t 0], .o 184 .nilCheck [.T 183],
 .o 185 (.fieldAddr 6) [.T 184], .o 186 (.fieldAddr 6) [.T 185], .o 187 (.load false 1 false) [.T 186], .o 188 (.len .sl) [.T 187],
 .o 189 (.indexAddr 6) [.T 181,.T 182], .o 190 (.fieldAddr 3) [.T 189], .n (.store 1) [.T 190,.T 188]] (some []) [0]))))))) [] (.seq (.region [
 .o 192 (.bin .eql) [.t 15,.const (.int .i64 7)], .o 191 .move [.T 192]] none []) (.cond (.T 191) [15] (.seq (.region [
 .o 13 .move [.const (.int .i64 (-1))]] none []) (.seq (.seq (.region [ .o 193 (.fieldAddr 4) [.t 3], .o 194 (.loadF 0 false 1 false) [.T 193],
 .o 195 (.len .sl) [.T 194], .o 196 (.bin .gtr) [.T 195,.const (.int .i64 0)]] none []) (.cond (.T 196) [13] (.region [ .o 197 .move [.t 0],
 .o 198 (.fieldAddr 4) [.T 3], .o 199 (.loadF 0 false 1 false) [.T 198], .o 200 (.indexAddr 11) [.T 199,.const (.int .i64 0)],
 .o 201 (.load true 11 false) [.T 200], .o 202 (.call 105) [.T 197,.T 201], .o 13 .move [.T 202]] none []) [3] .skip)) (.region [ .o 203 .move [.T 0],
 .o 204 .move [.T 13], .o 205 (.build [.int .i64 0,.int .i64 0,.int .i64 0,.int .i64 0,.int .i64 0,.nilSl] [(0,1),(1,1)]) [.const (.int .i64 18),.T 204],
 .o 206 (.call 75) [.T 203,.T 205]] none [206]))) [] (.seq (.region [ .o 208 (.bin .eql) [.t 15,.const (.int .i64 8)], .o 207 .move [.T 208]] none [])
 (.cond (.T 207) [15] (.region [ .o 209 .move [.t 0], .o 210 .move [.T 0], .o 211 (.fieldAddr 4) [.T 3], .o 212 (.loadF 0 false 1 false) [.T 211],
 .o 213 (.indexAddr 11) [.T 212,.const (.int .i64 0)], .o 214 (.load true 11 false) [.T 213], .o 215 (.call 105) [.T 210,.T 214],
 .o 216 (.build [.int .i64 0,.int .i64 0,.int .i64 0,.int .i64 0,.int .i64 0,.nilSl] [(0,1),(1,1)]) [.const (.int .i64 15),.T 215],
 .o 217 (.call 75) [.T 209,.T 216]] none [217]) [] (.seq (.region [ .o 219 (.bin .eql) [.T 15,.const (.int .i64 9)], .o 218 .move [.T 219]] none [])
 (.cond (.T 218) [] (.region [ .o 220 .move [.T 0], .o 221 (.fieldAddr 4) [.T 3], .o 222 (.loadF 0 false 1 false) [.T 221],
 .o 223 (.indexAddr 11) [.T 222,.const (.int .i64 0)], .o 224 (.load true 11 false) [.T 223], .o 225 (.call 105) [.T 220,.T 224]] none [225]) [0,3]
 .skip))))))))))))))))) }

/-- (*runrig/runrigref13.maker).add -/

def s75 : SFunc := { fid := 75,mode := .scp,nparams := 2,nboxes := 1,clr := [],results := [.tmp 4 false],body :=
 (.seq (.region [ .o 3 (.boxF 0 6) [.T 1], .o 4 .move [.const (.int .i64 0)]] none [4]) (.seq (.region [ .o 5 .move [.t 0], .o 6 .move [.t 0],
 .o 7 .nilCheck [.T 6], .o 8 (.fieldAddr 6) [.T 7], .o 9 (.fieldAddr 6) [.T 8], .o 10 (.load false 1 true) [.T 9], .o 11 (.loadF 0 true 6 false) [.T 3],
 .o 12 (.lit 6 1 [.int .i64 0,.int .i64 0,.int .i64 0,.int .i64 0,.int .i64 0,.nilSl] [0]) [.T 11], .o 13 (.append 6 64) [.T 10,.T 12], .o 14 .nilCheck [.T 5],
 .o 15 (.fieldAddr 6) [.T 14], .o 16 (.fieldAddr 6) [.T 15], .n (.store 1) [.T 16,.T 13]] (some []) []) (.seq (.region [ .o 17 .move [.T 0],
 .o 18 .nilCheck [.T 17], .o 19 (.fieldAddr 6) [.T 18], .o 20 (.fieldAddr 6) [.T 19], .o 21 (.load false 1 false) [.T 20], .o 22 (.len .sl) [.T 21],
 .o 23 (.bin .sub) [.T 22,.const (.int .i64 1)], .o 4 .move [.T 23]] none []) .ret))) }

/-- runrig/runrigref12.named -/

def s76 : SFunc := { fid := 76,mode := .pure,nparams := 1,nboxes := 1,clr := [],results := [.tmp 2 false],body :=
 (.seq (.region [ .o 1 (.boxF 0 6) [.T 0], .o 2 .move [.const (.bool false)]] none [2]) (.seq (.region [ .o 3 .move [.const (.bool false)],
 .o 4 .move [.const (.bool false)], .o 5 .move [.const (.bool false)], .o 6 .move [.const (.bool false)]] none []) (.seq (.seq (.region [
 .o 7 (.fieldAddr 0) [.t 1], .o 8 (.loadF 0 false 1 false) [.T 7]] none []) (.block 0 (.seq (.seq (.region [ .o 10 (.bin .eql) [.t 8,.const (.int .i64 1)],
 .o 9 .move [.T 10]] none []) (.cond (.t 9) [] .skip [9] (.seq (.region [ .o 11 (.bin .eql) [.t 8,.const (.int .i64 11)], .o 9 .move [.T 11]] none [])
 (.cond (.t 9) [] .skip [9] (.seq (.region [ .o 12 (.bin .eql) [.t 8,.const (.int .i64 19)], .o 9 .move [.T 12]] none []) (.cond (.t 9) [] .skip [9] (.region [
 .o 13 (.bin .eql) [.t 8,.const (.int .i64 20)], .o 9 .move [.T 13]] none []))))))) (.cond (.T 9) [5,8] (.region [
 .o 5 .move [.const (.bool true)]] none []) [] (.seq (.seq (.region [ .o 15 (.bin .eql) [.t 8,.const (.int .i64 3)], .o 14 .move [.T 15]] none [])
 (.cond (.t 14) [] .skip [14] (.region [ .o 16 (.bin .eql) [.t 8,.const (.int .i64 10)], .o 14 .move [.T 16]] none []))) (.cond (.T 14) [3,8] (.region [
 .o 3 .move [.const (.bool true)]] none []) [] (.seq (.region [ .o 18 (.bin .eql) [.t 8,.const (.int .i64 4)], .o 17 .move [.T 18]] none [])
 (.cond (.T 17) [3,4,5,8] (.region [ .o 3 .move [.const (.bool true)], .o 4 .move [.const (.bool true)], .o 5 .move [.const (.bool true)]] none []) [] (.seq
 (.seq (.region [ .o 20 (.bin .eql) [.t 8,.const (.int .i64 5)], .o 19 .move [.T 20]] none []) (.cond (.t 19) [] .skip [19] (.region [
 .o 21 (.bin .eql) [.t 8,.const (.int .i64 12)], .o 19 .move [.T 21]] none []))) (.cond (.T 19) [3,5,8] (.region [ .o 3 .move [.const (.bool true)],
 .o 5 .move [.const (.bool true)]] none []) [] (.seq (.seq (.region [ .o 23 (.bin .eql) [.t 8,.const (.int .i64 6)], .o 22 .move [.T 23]] none [])
 (.cond (.t 22) [] .skip [22] (.seq (.region [ .o 24 (.bin .eql) [.t 8,.const (.int .i64 7)], .o 22 .move [.T 24]] none []) (.cond (.t 22) [] .skip [22] (.seq
 (.region [ .o 25 (.bin .eql) [.t 8,.const (.int .i64 8)], .o 22 .move [.T 25]] none []) (.cond (.t 22) [] .skip [22] (.region [
 .o 26 (.bin .eql) [.t 8,.const (.int .i64 9)], .o 22 .move [.T 26]] none []))))))) (.cond (.T 22) [3,4,8] (.region [ .o 3 .move [.const (.bool true)],
 .o 4 .move [.const (.bool true)]] none []) [] (.seq (.region [ .o 28 (.bin .eql) [.t 8,.const (.int .i64 13)], .o 27 .move [.T 28]] none [])
 (.cond (.T 27) [4,6,8] (.region [ .o 4 .move [.const (.bool true)], .o 6 .move [.const (.bool true)]] none []) [] (.seq (.region [
 .o 30 (.bin .eql) [.t 8,.const (.int .i64 17)], .o 29 .move [.T 30]] none []) (.cond (.T 29) [4,5,8] (.region [ .o 4 .move [.const (.bool true)],
 .o 5 .move [.const (.bool true)]] none []) [] (.seq (.region [ .o 32 (.bin .eql) [.T 8,.const (.int .i64 16)], .o 31 .move [.T 32]] none [])
 (.cond (.T 31) [3,4,5,6] (.seq (.region [ .o 33 (.fieldAddr 1) [.t 1], .o 34 (.loadF 0 false 1 false) [.T 33], .o 35 (.bin .eql) [.T 34,.const (.int .i64 0)],
 .o 36 .move [.T 35], .y 37 (.fieldAddr 2) [.t 1] 36, .y 38 (.loadF 0 false 1 false) [.T 37] 36, .y 39 (.bin .eql) [.T 38,.const (.int .i64 0)] 36,
 .o 40 .pick [.T 36,.T 39,.const (.bool false)], .o 41 .move [.T 40], .y 42 (.fieldAddr 3) [.t 1] 41, .y 43 (.loadF 0 false 1 false) [.T 42] 41,
 .y 44 (.bin .eql) [.T 43,.const (.int .i64 0)] 41, .o 45 .pick [.T 41,.T 44,.const (.bool false)], .o 46 .move [.T 45], .y 47 (.fieldAddr 5) [.T 1] 46,
 .y 48 (.loadF 0 false 1 false) [.T 47] 46, .y 49 (.len .sl) [.T 48] 46, .y 50 (.bin .eql) [.T 49,.const (.int .i64 0)] 46,
 .o 51 .pick [.T 46,.T 50,.const (.bool false)], .o 2 .move [.T 51]] none [1,37,38,42,43,47,48,49]) .ret) [] .skip)))))))))))))))))) (.seq (.region [
 .o 52 .move [.T 3], .o 53 .move [.T 52], .z 54 (.fieldAddr 2) [.t 1] 53, .z 55 (.loadF 0 false 1 false) [.T 54] 53,
 .z 56 (.bin .eql) [.T 55,.const (.int .i64 0)] 53, .o 57 .pick [.T 53,.const (.bool true),.T 56], .o 58 .move [.T 57], .y 59 .move [.T 4] 58,
 .y 60 .move [.T 59] 58, .z 61 (.fieldAddr 3) [.t 1] 60, .z 62 (.loadF 0 false 1 false) [.T 61] 60, .z 63 (.bin .eql) [.T 62,.const (.int .i64 0)] 60,
 .y 64 .pick [.T 60,.const (.bool true),.T 63] 58, .o 65 .pick [.T 58,.T 64,.const (.bool false)], .o 66 .move [.T 65], .y 67 .move [.T 5] 66,
 .y 68 .move [.T 67] 66, .z 69 (.fieldAddr 4) [.t 1] 68, .z 70 (.loadF 0 false 1 false) [.T 69] 68, .z 71 (.bin .eql) [.T 70,.const (.int .i64 0)] 68,
 .y 72 .pick [.T 68,.const (.bool true),.T 71] 66, .o 73 .pick [.T 66,.T 72,.const (.bool false)], .o 74 .move [.T 73], .y 75 .move [.T 6] 74,
 .y 76 .move [.T 75] 74, .z 77 (.fieldAddr 5) [.T 1] 76, .z 78 (.loadF 0 false 1 false) [.T 77] 76, .z 79 (.len .sl) [.T 78] 76,
 .z 80 (.bin .eql) [.T 79,.const (.int .i64 0)] 76, .y 81 .pick [.T 76,.const (.bool true),.T 80] 74, .o 82 .pick [.T 74,.T 81,.const (.bool false)],
 .o 2 .move [.T 82]] none [1,4,5,6,54,55,59,60,61,62,63,67,68,69,70,71,75,76,77,78,79,80]) .ret)))) }

/-- runrig/runrigref12.of -/

def s77 : SFunc := { fid := 77,mode := .pure,nparams := 2,nboxes := 2,clr := [],results := [.box 4 1 3 true],body :=
 (.seq (.region [ .o 2 (.boxF 0 7) [.T 0], .o 4 (.allocF 1 [.int .i64 0,.int .i64 0,.int .i64 0]) []] none []) (.seq (.seq (.region [ .o 5 .move [.t 1],
 .o 6 (.bin .lss) [.T 5,.const (.int .i64 0)], .o 7 .move [.T 6], .z 8 .move [.t 1] 7, .z 9 (.fieldAddr 1) [.t 2] 7, .z 10 (.loadF 0 false 1 false) [.T 9] 7,
 .z 11 (.len .sl) [.T 10] 7, .z 12 (.bin .geq) [.T 8,.T 11] 7, .o 13 .pick [.T 7,.const (.bool true),.T 12]] none [8,9,10,11]) (.cond (.T 13) [1,2] (.seq
 (.region [ .o 14 (.build [.int .i64 0,.int .i64 0,.int .i64 0] []) [], .n (.storeF 1 3) [.t 4,.T 14]] none []) .ret) [] .skip)) (.seq (.region [
 .o 15 (.fieldAddr 1) [.T 2], .o 16 (.loadF 0 false 1 false) [.T 15], .o 17 .move [.T 1], .o 18 (.indexAddr 3) [.T 16,.T 17],
 .o 19 (.load true 3 false) [.T 18], .n (.storeF 1 3) [.t 4,.T 19]] none []) .ret))) }

/-- runrig/runrigref12.tint -/

def s78 : SFunc := { fid := 78,mode := .pure,nparams := 0,nboxes := 1,clr := [],results := [.box 0 0 3 true],body :=
 (.seq (.region [ .o 0 (.allocF 0 [.int .i64 0,.int .i64 0,.int .i64 0]) []] none []) (.seq (.region [
 .o 1 (.build [.int .i64 0,.int .i64 0,.int .i64 0] [(0,1)]) [.const (.int .i64 1)], .n (.storeF 0 3) [.t 0,.T 1]] none []) .ret)) }

/-- runrig/runrigref12.tbool -/

def s79 : SFunc := { fid := 79,mode := .pure,nparams := 0,nboxes := 1,clr := [],results := [.box 0 0 3 true],body :=
 (.seq (.region [ .o 0 (.allocF 0 [.int .i64 0,.int .i64 0,.int .i64 0]) []] none []) (.seq (.region [
 .o 1 (.build [.int .i64 0,.int .i64 0,.int .i64 0] [(0,1)]) [.const (.int .i64 2)], .n (.storeF 0 3) [.t 0,.T 1]] none []) .ret)) }

/-- runrig/runrigref12.binary -/

def s80 : SFunc := { fid := 80,mode := .pure,nparams := 4,nboxes := 3,clr := [],results := [.tmp 8 false],body :=
 (.seq (.region [ .o 5 (.boxF 0 3) [.T 1], .o 6 (.boxF 1 3) [.T 2], .o 7 (.boxF 2 3) [.T 3], .o 8 .move [.const (.bool false)]] none [8]) (.seq (.seq
 (.region [ .o 9 .move [.T 0]] none []) (.block 0 (.seq (.seq (.region [ .o 11 (.bin .eql) [.t 9,.const (.int .i64 14)], .o 10 .move [.T 11]] none [])
 (.cond (.t 10) [] .skip [10] (.seq (.region [ .o 12 (.bin .eql) [.t 9,.const (.int .i64 15)], .o 10 .move [.T 12]] none []) (.cond (.t 10) [] .skip [10] (.seq
 (.region [ .o 13 (.bin .eql) [.t 9,.const (.int .i64 16)], .o 10 .move [.T 13]] none []) (.cond (.t 10) [] .skip [10] (.seq (.region [
 .o 14 (.bin .eql) [.t 9,.const (.int .i64 17)], .o 10 .move [.T 14]] none []) (.cond (.t 10) [] .skip [10] (.region [
 .o 15 (.bin .eql) [.t 9,.const (.int .i64 18)], .o 10 .move [.T 15]] none []))))))))) (.cond (.T 10) [9] (.seq (.region [
 .o 16 (.loadF 0 true 3 false) [.T 5], .o 17 (.call 78) [], .o 18 (.eqv (.flat [.int,.int,.int]) false) [.T 16,.T 17], .o 19 .move [.T 18],
 .y 20 (.loadF 1 true 3 false) [.T 6] 19, .y 21 (.call 78) [] 19, .y 22 (.eqv (.flat [.int,.int,.int]) false) [.T 20,.T 21] 19,
 .o 23 .pick [.t 19,.T 22,.const (.bool false)], .o 24 .move [.T 23], .y 25 (.loadF 2 true 3 false) [.T 7] 24, .y 26 (.call 78) [] 24,
 .y 27 (.eqv (.flat [.int,.int,.int]) false) [.T 25,.T 26] 24, .o 28 .pick [.t 24,.T 27,.const (.bool false)],
 .o 8 .move [.T 28]] (some []) [6,7,19,20,21,24,25,26]) .ret) [] (.seq (.seq (.region [ .o 30 (.bin .eql) [.t 9,.const (.int .i64 19)],
 .o 29 .move [.T 30]] none []) (.cond (.t 29) [] .skip [29] (.region [ .o 31 (.bin .eql) [.t 9,.const (.int .i64 20)], .o 29 .move [.T 31]] none [])))
 (.cond (.T 29) [9] (.seq (.region [ .o 32 (.loadF 0 true 3 false) [.T 5], .o 33 (.call 79) [], .o 34 (.eqv (.flat [.int,.int,.int]) false) [.T 32,.T 33],
 .o 35 .move [.T 34], .y 36 (.loadF 1 true 3 false) [.T 6] 35, .y 37 (.call 78) [] 35, .y 38 (.eqv (.flat [.int,.int,.int]) false) [.T 36,.T 37] 35,
 .o 39 .pick [.t 35,.T 38,.const (.bool false)], .o 40 .move [.T 39], .y 41 (.loadF 2 true 3 false) [.T 7] 40, .y 42 (.call 78) [] 40,
 .y 43 (.eqv (.flat [.int,.int,.int]) false) [.T 41,.T 42] 40, .o 44 .pick [.t 40,.T 43,.const (.bool false)],
 .o 8 .move [.T 44]] (some []) [6,7,35,36,37,40,41,42]) .ret) [] (.seq (.seq (.region [ .o 46 (.bin .eql) [.t 9,.const (.int .i64 21)],
 .o 45 .move [.T 46]] none []) (.cond (.t 45) [] .skip [45] (.region [ .o 47 (.bin .eql) [.t 9,.const (.int .i64 22)], .o 45 .move [.T 47]] none [])))
 (.cond (.T 45) [9] (.seq (.region [ .o 48 (.loadF 0 true 3 false) [.T 5], .o 49 (.call 79) [], .o 50 (.eqv (.flat [.int,.int,.int]) false) [.T 48,.T 49],
 .o 51 .move [.T 50], .y 52 (.loadF 1 true 3 false) [.t 6] 51, .y 53 (.build [.int .i64 0,.int .i64 0,.int .i64 0] []) [] 51,
 .y 54 (.eqv (.flat [.int,.int,.int]) true) [.T 52,.T 53] 51, .o 55 .pick [.t 51,.T 54,.const (.bool false)], .o 56 .move [.T 55],
 .y 57 (.loadF 1 true 3 false) [.t 6] 56, .y 58 (.loadF 2 true 3 false) [.T 7] 56, .y 59 (.eqv (.flat [.int,.int,.int]) false) [.T 57,.T 58] 56,
 .o 60 .pick [.t 56,.T 59,.const (.bool false)], .o 8 .move [.T 60]] (some []) [6,7,51,52,53,56,57,58]) .ret) [] (.seq (.seq (.region [
 .o 62 (.bin .eql) [.t 9,.const (.int .i64 23)], .o 61 .move [.T 62]] none []) (.cond (.t 61) [9] .skip [61] (.region [
 .o 63 (.bin .eql) [.T 9,.const (.int .i64 24)], .o 61 .move [.T 63]] none []))) (.cond (.T 61) [] (.seq (.region [ .o 64 (.loadF 0 true 3 false) [.T 5],
 .o 65 (.call 79) [], .o 66 (.eqv (.flat [.int,.int,.int]) false) [.T 64,.T 65], .o 67 .move [.T 66], .y 68 (.loadF 1 true 3 false) [.T 6] 67,
 .y 69 (.call 79) [] 67, .y 70 (.eqv (.flat [.int,.int,.int]) false) [.T 68,.T 69] 67, .o 71 .pick [.t 67,.T 70,.const (.bool false)], .o 72 .move [.T 71],
 .y 73 (.loadF 2 true 3 false) [.T 7] 72, .y 74 (.call 79) [] 72, .y 75 (.eqv (.flat [.int,.int,.int]) false) [.T 73,.T 74] 72,
 .o 76 .pick [.t 72,.T 75,.const (.bool false)], .o 8 .move [.T 76]] (some []) [6,7,67,68,69,72,73,74]) .ret) [5,6,7] .skip)))))))))) (.seq (.region [
 .o 8 .move [.const (.bool false)]] none []) .ret))) }

/-- runrig/runrigref12.field -/

def s81 : SFunc := { fid := 81,mode := .pure,nparams := 3,nboxes := 3,clr := [],results := [.box 6 2 3 true],body :=
 (.seq (.region [ .o 3 (.boxF 0 5) [.T 0], .o 4 (.boxF 1 3) [.T 1], .o 6 (.allocF 2 [.int .i64 0,.int .i64 0,.int .i64 0]) []] none []) (.seq (.seq (.region [
 .o 7 (.fieldAddr 0) [.t 4], .o 8 (.loadF 1 false 1 false) [.T 7], .o 9 (.bin .neq) [.T 8,.const (.int .i64 3)], .o 10 .move [.T 9],
 .z 11 (.fieldAddr 2) [.t 4] 10, .z 12 (.loadF 1 false 1 false) [.T 11] 10, .z 13 (.bin .neq) [.T 12,.const (.int .i64 0)] 10,
 .o 14 .pick [.T 10,.const (.bool true),.T 13], .o 15 .move [.T 14], .z 16 (.fieldAddr 1) [.t 4] 15, .z 17 (.loadF 1 false 1 false) [.T 16] 15,
 .z 18 (.bin .lss) [.T 17,.const (.int .i64 0)] 15, .o 19 .pick [.T 15,.const (.bool true),.T 18], .o 20 .move [.T 19], .z 21 (.fieldAddr 1) [.t 4] 20,
 .z 22 (.loadF 1 false 1 false) [.T 21] 20, .z 23 (.fieldAddr 0) [.t 3] 20, .z 24 (.loadF 0 false 1 false) [.T 23] 20, .z 25 (.len .sl) [.T 24] 20,
 .z 26 (.bin .geq) [.T 22,.T 25] 20, .o 27 .pick [.T 20,.const (.bool true),.T 26], .o 28 .move [.T 27], .z 29 .move [.t 2] 28,
 .z 30 (.bin .lss) [.T 29,.const (.int .i64 0)] 28, .o 31 .pick [.T 28,.const (.bool true),.T 30], .o 32 .move [.T 31], .z 33 .move [.t 2] 32,
 .z 34 (.fieldAddr 0) [.t 3] 32, .z 35 (.loadF 0 false 1 false) [.T 34] 32, .z 36 (.fieldAddr 1) [.t 4] 32, .z 37 (.loadF 1 false 1 false) [.T 36] 32,
 .z 38 (.indexAddr 2) [.T 35,.T 37] 32, .z 39 (.fieldAddr 1) [.T 38] 32, .z 40 (.load false 1 false) [.T 39] 32, .z 41 (.len .sl) [.T 40] 32,
 .z 42 (.bin .geq) [.T 33,.T 41] 32, .o 43 .pick [.T 32,.const (.bool true),.T 42]] none [11,12,16,17,21,22,23,24,25,29,33,34,35,36,37,38,39,40,41])
 (.cond (.T 43) [2,3,4] (.seq (.region [ .o 44 (.build [.int .i64 0,.int .i64 0,.int .i64 0] []) [], .n (.storeF 2 3) [.t 6,.T 44]] none []) .ret) [] .skip))
 (.seq (.region [ .o 45 (.fieldAddr 0) [.T 3], .o 46 (.loadF 0 false 1 false) [.T 45], .o 47 (.fieldAddr 1) [.T 4], .o 48 (.loadF 1 false 1 false) [.T 47],
 .o 49 (.indexAddr 2) [.T 46,.T 48], .o 50 (.fieldAddr 1) [.T 49], .o 51 (.load false 1 false) [.T 50], .o 52 .move [.T 2], .o 53 (.indexAddr 4) [.T 51,.T 52],
 .o 54 (.fieldAddr 1) [.T 53], .o 55 (.load true 3 false) [.T 54], .n (.storeF 2 3) [.t 6,.T 55]] none []) .ret))) }

/-- runrig/runrigref12.less -/

def s82 : SFunc := { fid := 82,mode := .pure,nparams := 1,nboxes := 2,clr := [],results := [.box 2 1 3 true],body :=
 (.seq (.region [ .o 1 (.boxF 0 3) [.T 0], .o 2 (.allocF 1 [.int .i64 0,.int .i64 0,.int .i64 0]) []] none []) (.seq (.region [ .o 3 (.fieldAddr 0) [.t 1],
 .o 4 (.loadF 0 false 1 false) [.T 3], .o 5 (.fieldAddr 1) [.t 1], .o 6 (.loadF 0 false 1 false) [.T 5], .o 7 (.fieldAddr 2) [.T 1],
 .o 8 (.loadF 0 false 1 false) [.T 7], .o 9 (.bin .sub) [.T 8,.const (.int .i64 1)],
 .o 10 (.build [.int .i64 0,.int .i64 0,.int .i64 0] [(0,1),(1,1),(2,1)]) [.T 4,.T 6,.T 9], .n (.storeF 1 3) [.t 2,.T 10]] none []) .ret)) }

/-- runrig/runrigref12.allocates -/

def s83 : SFunc := { fid := 83,mode := .pure,nparams := 4,nboxes := 2,clr := [],results := [.tmp 8 false],body :=
 (.seq (.region [ .o 4 (.boxF 0 5) [.T 0], .o 7 (.boxF 1 3) [.T 3], .o 8 .move [.const (.bool false)]] none [8]) (.seq (.region [ .o 9 .move [.t 2],
 .o 10 (.bin .geq) [.T 9,.const (.int .i64 0)], .o 11 .move [.T 10], .y 12 .move [.t 2] 11, .y 13 (.fieldAddr 3) [.t 4] 11,
 .y 14 (.loadF 0 false 1 false) [.T 13] 11, .y 15 (.len .sl) [.T 14] 11, .y 16 (.bin .lss) [.T 12,.T 15] 11, .o 17 .pick [.t 11,.T 16,.const (.bool false)],
 .o 18 .move [.T 17], .y 19 (.fieldAddr 3) [.t 4] 18, .y 20 (.loadF 0 false 1 false) [.T 19] 18, .y 21 .move [.t 2] 18, .y 22 (.indexAddr 4) [.T 20,.T 21] 18,
 .y 23 (.fieldAddr 0) [.T 22] 18, .y 24 (.load false 1 false) [.T 23] 18, .y 25 .move [.T 1] 18, .y 26 (.bin .eql) [.T 24,.T 25] 18,
 .o 27 .pick [.t 18,.T 26,.const (.bool false)], .o 28 .move [.T 27], .y 29 (.fieldAddr 3) [.t 4] 28, .y 30 (.loadF 0 false 1 false) [.T 29] 28,
 .y 31 .move [.t 2] 28, .y 32 (.indexAddr 4) [.T 30,.T 31] 28, .y 33 (.fieldAddr 1) [.T 32] 28, .y 34 (.load true 3 false) [.T 33] 28,
 .y 35 (.loadF 1 true 3 false) [.T 7] 28, .y 36 (.eqv (.flat [.int,.int,.int]) false) [.T 34,.T 35] 28, .o 37 .pick [.t 28,.T 36,.const (.bool false)],
 .o 8 .move [.T 37]] (some []) [1,2,4,7,11,12,13,14,15,18,19,20,21,22,23,24,25,28,29,30,31,32,33,34,35]) .ret)) }

/-- runrig/runrigref12.calls -/
def s84_l0 : SCode :=
 (.seq (.seq (.region [ .o 47 .move [.t 8], .o 48 (.fieldAddr 5) [.t 5], .o 49 (.loadF 2 false 1 false) [.T 48], .o 50 (.len .sl) [.T 49],
 .o 51 (.bin .lss) [.T 47,.T 50]] none []) (.cond (.T 51) [] .skip [8] (.exit 0))) (.seq (.block 1 (.seq (.region [ .o 54 (.loadF 1 true 7 false) [.t 4],
 .o 55 (.fieldAddr 5) [.t 5], .o 56 (.loadF 2 false 1 false) [.T 55], .o 57 .move [.t 8], .o 58 (.indexAddr 1) [.T 56,.T 57],
 .o 59 (.load false 1 false) [.T 58], .o 60 (.call 77) [.T 54,.T 59], .o 9 (.allocF 4 [.int .i64 0,.int .i64 0,.int .i64 0]) [],
 .n (.storeF 4 3) [.t 9,.T 60]] (some []) []) (.seq (.region [ .o 61 (.loadF 4 true 3 false) [.t 9],
 .o 62 (.build [.int .i64 0,.int .i64 0,.int .i64 0] []) [], .o 63 (.eqv (.flat [.int,.int,.int]) false) [.T 61,.T 62], .o 64 .move [.T 63],
 .z 65 (.loadF 4 true 3 false) [.t 9] 64, .z 66 (.fieldAddr 1) [.t 7] 64, .z 67 (.loadF 3 false 1 false) [.T 66] 64, .z 68 .move [.t 8] 64,
 .z 69 (.indexAddr 3) [.T 67,.T 68] 64, .z 70 (.load true 3 false) [.T 69] 64, .z 71 (.eqv (.flat [.int,.int,.int]) true) [.T 65,.T 70] 64,
 .o 72 .pick [.t 64,.const (.bool true),.T 71]] (some []) [9,64,65,66,67,68,69,70]) (.cond (.T 72) [4,5,7,8] (.seq (.region [
 .o 6 .move [.const (.bool false)]] none []) .ret) [] .skip)))) (.region [ .o 52 .move [.T 8], .o 53 (.bin .add) [.T 52,.const (.int .i64 1)],
 .o 8 .move [.T 53]] none [])))
def s84 : SFunc := { fid := 84,mode := .pure,nparams := 3,nboxes := 6,clr := [],results := [.tmp 6 false],body :=
 (.seq (.region [ .o 3 (.boxF 0 5) [.T 0], .o 4 (.boxF 1 7) [.T 1], .o 5 (.boxF 2 6) [.T 2], .o 6 .move [.const (.bool false)]] none [6]) (.seq (.seq
 (.region [ .o 11 (.fieldAddr 3) [.t 5], .o 12 (.loadF 2 false 1 false) [.T 11], .o 13 (.bin .lss) [.T 12,.const (.int .i64 0)], .o 14 .move [.T 13],
 .z 15 (.fieldAddr 3) [.t 5] 14, .z 16 (.loadF 2 false 1 false) [.T 15] 14, .z 17 (.fieldAddr 2) [.t 3] 14, .z 18 (.loadF 0 false 1 false) [.T 17] 14,
 .z 19 (.len .sl) [.T 18] 14, .z 20 (.bin .geq) [.T 16,.T 19] 14, .o 21 .pick [.T 14,.const (.bool true),.T 20]] none [15,16,17,18,19]) (.cond (.T 21) [3,4,5]
 (.seq (.region [ .o 6 .move [.const (.bool false)]] none []) .ret) [] .skip)) (.seq (.region [ .o 22 (.fieldAddr 2) [.T 3],
 .o 23 (.loadF 0 false 1 false) [.T 22], .o 24 (.fieldAddr 3) [.t 5], .o 25 (.loadF 2 false 1 false) [.T 24], .o 26 (.indexAddr 7) [.T 23,.T 25],
 .o 27 (.load true 7 false) [.T 26], .o 7 (.allocF 3 [.int .i64 0,.nilSl,.bool false,.int .i64 0,.int .i64 0,.int .i64 0,.nilSl]) [],
 .n (.storeF 3 7) [.t 7,.T 27]] none []) (.seq (.seq (.region [ .o 28 (.fieldAddr 0) [.t 7], .o 29 (.loadF 3 false 1 false) [.T 28],
 .o 30 (.bin .lss) [.T 29,.const (.int .i64 0)], .o 31 .move [.T 30], .z 32 (.fieldAddr 0) [.t 7] 31, .z 33 (.loadF 3 false 1 false) [.T 32] 31,
 .z 34 (.fieldAddr 1) [.t 7] 31, .z 35 (.loadF 3 false 1 false) [.T 34] 31, .z 36 (.len .sl) [.T 35] 31, .z 37 (.bin .gtr) [.T 33,.T 36] 31,
 .o 38 .pick [.T 31,.const (.bool true),.T 37], .o 39 .move [.T 38], .z 40 (.fieldAddr 5) [.t 5] 39, .z 41 (.loadF 2 false 1 false) [.T 40] 39,
 .z 42 (.len .sl) [.T 41] 39, .z 43 (.fieldAddr 0) [.t 7] 39, .z 44 (.loadF 3 false 1 false) [.T 43] 39, .z 45 (.bin .neq) [.T 42,.T 44] 39,
 .o 46 .pick [.T 39,.const (.bool true),.T 45]] none [32,33,34,35,36,40,41,42,43,44]) (.cond (.T 46) [4,5,7] (.seq (.region [
 .o 6 .move [.const (.bool false)]] none []) .ret) [] .skip)) (.seq (.seq (.region [ .o 8 .move [.const (.int .i64 0)]] none []) (.block 0 (.loop s84_l0)))
 (.seq (.seq (.region [ .o 73 (.fieldAddr 1) [.t 5], .o 74 (.loadF 2 false 1 false) [.T 73], .o 75 (.bin .eql) [.T 74,.const (.int .i64 (-1))]] none [])
 (.cond (.T 75) [4,5,7] (.seq (.region [ .o 6 .move [.const (.bool true)]] none []) .ret) [] .skip)) (.seq (.region [ .o 76 (.loadF 1 true 7 false) [.T 4],
 .o 77 (.fieldAddr 1) [.T 5], .o 78 (.loadF 2 false 1 false) [.T 77], .o 79 (.call 77) [.T 76,.T 78],
 .o 10 (.allocF 5 [.int .i64 0,.int .i64 0,.int .i64 0]) [], .n (.storeF 5 3) [.t 10,.T 79]] none []) (.seq (.region [ .o 80 (.fieldAddr 2) [.t 7],
 .o 81 (.loadF 3 false 1 false) [.T 80], .o 82 .move [.T 81], .y 83 (.loadF 5 true 3 false) [.t 10] 82,
 .y 84 (.build [.int .i64 0,.int .i64 0,.int .i64 0] []) [] 82, .y 85 (.eqv (.flat [.int,.int,.int]) true) [.T 83,.T 84] 82,
 .o 86 .pick [.T 82,.T 85,.const (.bool false)], .o 87 .move [.T 86], .y 88 (.loadF 5 true 3 false) [.T 10] 87, .y 89 (.fieldAddr 3) [.T 7] 87,
 .y 90 (.loadF 3 true 3 false) [.T 89] 87, .y 91 (.eqv (.flat [.int,.int,.int]) false) [.T 88,.T 90] 87, .o 92 .pick [.T 87,.T 91,.const (.bool false)],
 .o 6 .move [.T 92]] none [7,10,83,84,88,89,90]) .ret)))))))) }

/-- runrig/ir.may -/

def s85 : SFunc := { fid := 85,mode := .pure,nparams := 2,nboxes := 2,clr := [],results := [.tmp 4 false],body :=
 (.seq (.region [ .o 2 (.boxF 0 5) [.T 0], .o 3 (.boxF 1 3) [.T 1], .o 4 .move [.const (.bool false)]] none [4]) (.seq (.seq (.region [
 .o 5 (.fieldAddr 2) [.t 3], .o 6 (.loadF 1 false 1 false) [.T 5], .o 7 (.bin .lss) [.T 6,.const (.int .i64 0)], .o 8 .move [.T 7],
 .z 9 (.fieldAddr 2) [.t 3] 8, .z 10 (.loadF 1 false 1 false) [.T 9] 8, .z 11 (.bin .gtr) [.T 10,.const (.int .i64 3)] 8,
 .o 12 .pick [.T 8,.const (.bool true),.T 11]] none [9,10]) (.cond (.T 12) [2,3] (.seq (.region [ .o 4 .move [.const (.bool false)]] none []) .ret) [] .skip))
 (.seq (.seq (.region [ .o 13 (.fieldAddr 0) [.t 3], .o 14 (.loadF 1 false 1 false) [.T 13]] none []) (.block 0 (.seq (.seq (.region [
 .o 16 (.bin .eql) [.t 14,.const (.int .i64 1)], .o 15 .move [.T 16]] none []) (.cond (.t 15) [14] .skip [15] (.region [
 .o 17 (.bin .eql) [.T 14,.const (.int .i64 2)], .o 15 .move [.T 17]] none []))) (.cond (.T 15) [2] (.seq (.region [ .o 18 (.fieldAddr 1) [.T 3],
 .o 19 (.loadF 1 false 1 false) [.T 18], .o 20 (.bin .eql) [.T 19,.const (.int .i64 0)], .o 4 .move [.T 20]] none []) .ret) [] .skip)))) (.seq (.region [
 .o 21 (.fieldAddr 0) [.t 3], .o 22 (.loadF 1 false 1 false) [.T 21], .o 23 (.bin .eql) [.T 22,.const (.int .i64 3)], .o 24 .move [.T 23],
 .y 25 (.fieldAddr 1) [.t 3] 24, .y 26 (.loadF 1 false 1 false) [.T 25] 24, .y 27 (.bin .geq) [.T 26,.const (.int .i64 0)] 24,
 .o 28 .pick [.T 24,.T 27,.const (.bool false)], .o 29 .move [.T 28], .y 30 (.fieldAddr 1) [.T 3] 29, .y 31 (.loadF 1 false 1 false) [.T 30] 29,
 .y 32 (.fieldAddr 0) [.T 2] 29, .y 33 (.loadF 0 false 1 false) [.T 32] 29, .y 34 (.len .sl) [.T 33] 29, .y 35 (.bin .lss) [.T 31,.T 34] 29,
 .o 36 .pick [.T 29,.T 35,.const (.bool false)], .o 4 .move [.T 36]] none [2,3,25,26,30,31,32,33,34]) .ret)))) }

/-- runrig/heads.Ref -/

def s86 : SFunc := { fid := 86,mode := .pure,nparams := 1,nboxes := 1,clr := [],results := [.tmp 2 false],body :=
 (.seq (.region [ .o 1 (.boxF 0 3) [.T 0], .o 2 .move [.const (.bool false)]] none [2]) (.seq (.region [ .o 3 (.fieldAddr 0) [.t 1],
 .o 4 (.loadF 0 false 1 false) [.T 3], .o 5 (.bin .eql) [.T 4,.const (.int .i64 3)], .o 6 .move [.T 5], .z 7 (.fieldAddr 2) [.T 1] 6,
 .z 8 (.loadF 0 false 1 false) [.T 7] 6, .z 9 (.bin .gtr) [.T 8,.const (.int .i64 0)] 6, .o 10 .pick [.T 6,.const (.bool true),.T 9],
 .o 2 .move [.T 10]] none [1,7,8]) .ret)) }

/-- runrig/ir.code -/
def s87_l0 : SCode :=
 (.seq (.region [ .o 73 (.bin .lss) [.t 72,.t 71]] none []) (.seq (.cond (.T 73) [] .skip [1,2,70,71,72] (.exit 0)) (.seq (.block 1 (.seq (.region [
 .o 74 (.indexAddr 6) [.t 70,.t 72], .o 75 (.load true 6 false) [.T 74],
 .o 7 (.allocF 2 [.int .i64 0,.int .i64 0,.int .i64 0,.int .i64 0,.int .i64 0,.nilSl]) [], .n (.storeF 2 6) [.t 7,.T 75]] none []) (.seq (.region [
 .o 76 (.loadF 0 true 5 false) [.t 2], .o 77 .move [.t 1], .o 78 (.loadF 2 true 6 false) [.T 7], .o 79 (.call 108) [.T 76,.T 77,.T 78],
 .o 80 (.un .not) [.T 79]] none []) (.cond (.T 80) [1,2,5,70,71,72] (.seq (.region [ .o 4 .move [.const (.bool false)]] none []) .ret) [] .skip)))) (.region [
 .o 81 (.bin .add) [.T 72,.const (.int .i64 1)], .o 72 .move [.T 81]] none []))))
def s87 : SFunc := { fid := 87,mode := .pure,nparams := 2,nboxes := 3,clr := [],results := [.tmp 4 false],body :=
 (.seq (.region [ .o 2 (.boxF 0 5) [.T 0], .o 4 .move [.const (.bool false)]] none [4]) (.seq (.region [ .o 9 (.fieldAddr 2) [.t 2],
 .o 10 (.loadF 0 false 1 false) [.T 9], .o 11 .move [.t 1], .o 12 (.indexAddr 7) [.T 10,.T 11], .o 13 (.load true 7 false) [.T 12],
 .o 5 (.allocF 1 [.int .i64 0,.nilSl,.bool false,.int .i64 0,.int .i64 0,.int .i64 0,.nilSl]) [], .n (.storeF 1 7) [.t 5,.T 13]] none []) (.seq (.seq
 (.region [ .o 14 (.fieldAddr 0) [.t 5], .o 15 (.loadF 1 false 1 false) [.T 14], .o 16 (.bin .lss) [.T 15,.const (.int .i64 0)], .o 17 .move [.T 16],
 .z 18 (.fieldAddr 0) [.t 5] 17, .z 19 (.loadF 1 false 1 false) [.T 18] 17, .z 20 (.bin .gtr) [.T 19,.const (.int .i64 6)] 17,
 .o 21 .pick [.T 17,.const (.bool true),.T 20], .o 22 .move [.T 21], .z 23 (.fieldAddr 0) [.t 5] 22, .z 24 (.loadF 1 false 1 false) [.T 23] 22,
 .z 25 (.fieldAddr 1) [.t 5] 22, .z 26 (.loadF 1 false 1 false) [.T 25] 22, .z 27 (.len .sl) [.T 26] 22, .z 28 (.bin .gtr) [.T 24,.T 27] 22,
 .o 29 .pick [.T 22,.const (.bool true),.T 28], .o 30 .move [.T 29], .z 31 (.fieldAddr 1) [.t 5] 30, .z 32 (.loadF 1 false 1 false) [.T 31] 30,
 .z 33 (.len .sl) [.T 32] 30, .z 34 (.bin .gtr) [.T 33,.const (.int .i64 4000)] 30, .o 35 .pick [.T 30,.const (.bool true),.T 34], .o 36 .move [.T 35],
 .z 37 (.fieldAddr 6) [.t 5] 36, .z 38 (.loadF 1 false 1 false) [.T 37] 36, .z 39 (.len .sl) [.T 38] 36, .z 40 (.bin .eql) [.T 39,.const (.int .i64 0)] 36,
 .o 41 .pick [.T 36,.const (.bool true),.T 40], .o 42 .move [.T 41], .z 43 (.loadF 0 true 5 false) [.t 2] 42, .z 44 (.fieldAddr 1) [.t 5] 42,
 .z 45 (.loadF 1 false 1 false) [.T 44] 42, .z 46 (.call 53) [.T 43,.T 45] 42, .z 47 (.un .not) [.T 46] 42,
 .o 48 .pick [.T 42,.const (.bool true),.T 47]] none [18,19,23,24,25,26,27,31,32,33,37,38,39,43,44,45,46]) (.cond (.T 48) [1,2,5] (.seq (.region [
 .o 4 .move [.const (.bool false)]] none []) .ret) [] .skip)) (.seq (.seq (.region [ .o 49 (.fieldAddr 2) [.t 5], .o 50 (.loadF 1 false 1 false) [.T 49],
 .o 51 .move [.T 50], .y 52 (.loadF 0 true 5 false) [.t 2] 51, .y 53 (.fieldAddr 3) [.t 5] 51, .y 54 (.loadF 1 true 3 false) [.T 53] 51,
 .y 55 (.call 85) [.T 52,.T 54] 51, .y 56 (.un .not) [.T 55] 51, .o 57 .pick [.t 51,.T 56,.const (.bool false)], .o 58 .move [.T 57],
 .z 59 (.fieldAddr 2) [.t 5] 58, .z 60 (.loadF 1 false 1 false) [.T 59] 58, .z 61 (.un .not) [.T 60] 58, .z 62 .move [.T 61] 58,
 .y 63 (.fieldAddr 3) [.t 5] 62, .y 64 (.loadF 1 true 3 false) [.T 63] 62, .y 65 (.call 107) [] 62,
 .y 66 (.eqv (.flat [.int,.int,.int]) true) [.T 64,.T 65] 62, .z 67 .pick [.t 62,.T 66,.const (.bool false)] 58,
 .o 68 .pick [.t 58,.const (.bool true),.T 67]] (some []) [51,52,53,54,55,58,59,60,61,62,63,64,65,66]) (.cond (.T 68) [1,2,5] (.seq (.region [
 .o 4 .move [.const (.bool false)]] none []) .ret) [] .skip)) (.seq (.seq (.region [ .o 69 (.fieldAddr 6) [.t 5], .o 70 (.loadF 1 false 1 false) [.T 69],
 .o 71 (.len .sl) [.t 70], .o 72 .move [.const (.int .i64 0)]] none []) (.block 0 (.loop s87_l0))) (.seq (.region [ .o 82 (.fieldAddr 6) [.t 5],
 .o 83 (.loadF 1 false 1 false) [.T 82], .o 84 (.fieldAddr 6) [.T 5], .o 85 (.loadF 1 false 1 false) [.T 84], .o 86 (.len .sl) [.T 85],
 .o 87 (.bin .sub) [.T 86,.const (.int .i64 1)], .o 88 (.indexAddr 6) [.T 83,.T 87], .o 89 (.fieldAddr 0) [.T 88], .o 90 (.load false 1 false) [.T 89],
 .o 8 .move [.T 90]] none []) (.seq (.region [ .o 91 .move [.t 8], .o 92 (.bin .eql) [.T 91,.const (.int .i64 16)], .o 93 .move [.T 92], .z 94 .move [.t 8] 93,
 .z 95 (.bin .eql) [.T 94,.const (.int .i64 17)] 93, .o 96 .pick [.T 93,.const (.bool true),.T 95], .o 97 .move [.T 96], .z 98 .move [.T 8] 97,
 .z 99 (.bin .eql) [.T 98,.const (.int .i64 18)] 97, .o 100 .pick [.T 97,.const (.bool true),.T 99], .o 4 .move [.T 100]] none [8,94,98]) .ret))))))) }

/-- runrig/runrigref19.ref -/

def s88 : SFunc := { fid := 88,mode := .pure,nparams := 2,nboxes := 1,clr := [],results := [.tmp 4 false],body :=
 (.seq (.region [ .o 2 (.boxF 0 7) [.T 0], .o 4 .move [.const (.bool false)]] none [4]) (.seq (.region [ .o 5 (.fieldAddr 1) [.T 2],
 .o 6 (.loadF 0 false 1 false) [.T 5], .o 7 .move [.T 1], .o 8 (.indexAddr 3) [.T 6,.T 7], .o 9 (.load true 3 false) [.T 8], .o 10 (.call 17) [.T 9],
 .o 4 .move [.T 10]] none []) .ret)) }

/-- runrig/runrigref2.letter -/

def s89 : SFunc := { fid := 89,mode := .pure,nparams := 1,nboxes := 0,clr := [],results := [.tmp 2 false],body :=
 (.seq (.region [ .o 2 .move [.const (.bool false)]] none [2]) (.seq (.region [ .o 3 .move [.t 0], .o 4 (.bin .geq) [.T 3,.const (.int .u8 97)],
 .o 5 .move [.T 4], .y 6 .move [.t 0] 5, .y 7 (.bin .leq) [.T 6,.const (.int .u8 122)] 5, .o 8 .pick [.T 5,.T 7,.const (.bool false)], .o 9 .move [.T 8],
 .z 10 .move [.t 0] 9, .z 11 (.bin .geq) [.T 10,.const (.int .u8 65)] 9, .z 12 .move [.T 11] 9, .y 13 .move [.T 0] 12,
 .y 14 (.bin .leq) [.T 13,.const (.int .u8 90)] 12, .z 15 .pick [.T 12,.T 14,.const (.bool false)] 9, .o 16 .pick [.T 9,.const (.bool true),.T 15],
 .o 2 .move [.T 16]] none [0,6,10,11,12,13,14]) .ret)) }

/-- runrig/runrigref2.run -/
def s90_l0 : SCode :=
 (.seq (.seq (.region [ .o 8 .move [.t 1], .o 9 .move [.t 7], .o 10 (.bin .add) [.T 8,.T 9], .o 11 .move [.t 0], .o 12 (.len .str) [.T 11],
 .o 13 (.bin .lss) [.T 10,.T 12], .o 14 .move [.T 13], .y 15 .move [.t 0] 14, .y 16 .move [.t 1] 14, .y 17 .move [.t 7] 14, .y 18 (.bin .add) [.T 16,.T 17] 14,
 .y 19 .index [.T 15,.T 18] 14, .y 20 (.call 93) [.T 19] 14, .y 21 .move [.T 20] 14, .z 22 .move [.t 2] 21, .z 23 (.un .not) [.T 22] 21,
 .z 24 .move [.T 23] 21, .y 25 .move [.t 0] 24, .y 26 .move [.t 1] 24, .y 27 .move [.t 7] 24, .y 28 (.bin .add) [.T 26,.T 27] 24,
 .y 29 .index [.T 25,.T 28] 24, .y 30 (.call 89) [.T 29] 24, .z 31 .pick [.T 24,.T 30,.const (.bool false)] 21,
 .y 32 .pick [.T 21,.const (.bool true),.T 31] 14, .o 33 .pick [.T 14,.T 32,.const (.bool false)]] none [15,16,17,18,19,20,21,22,23,24,25,26,27,28,29,30,31])
 (.cond (.T 33) [] .skip [0,1,2] (.exit 0))) (.block 1 (.region [ .o 34 .move [.T 7], .o 35 (.bin .add) [.T 34,.const (.int .i64 1)],
 .o 7 .move [.T 35]] none [])))
def s90 : SFunc := { fid := 90,mode := .pure,nparams := 3,nboxes := 0,clr := [],results := [.tmp 6 false],body :=
 (.seq (.region [ .o 6 .move [.const (.int .i64 0)]] none [6]) (.seq (.region [ .o 7 .move [.const (.int .i64 0)]] none []) (.seq (.block 0 (.loop s90_l0))
 (.seq (.region [ .o 36 .move [.T 7], .o 6 .move [.T 36]] none []) .ret)))) }

/-- runrig/runrigref2.Word -/
def s91_l0 : SCode :=
 (.seq (.seq (.region [ .o 6 .move [.t 4], .o 7 .move [.t 3], .o 8 (.len .sl) [.T 7], .o 9 (.bin .lss) [.T 6,.T 8]] none []) (.cond (.T 9) [] .skip [0,3,4]
 (.exit 0))) (.seq (.block 1 (.seq (.region [ .o 12 .move [.t 3], .o 13 .move [.t 4], .o 14 (.indexAddr 1) [.T 12,.T 13], .o 15 (.load false 1 false) [.T 14],
 .o 16 .move [.t 0], .o 17 (.bin .eql) [.T 15,.T 16]] none []) (.cond (.T 17) [0,3,4] (.seq (.region [ .o 2 .move [.const (.bool true)]] none []) .ret) []
 .skip))) (.region [ .o 10 .move [.T 4], .o 11 (.bin .add) [.T 10,.const (.int .i64 1)], .o 4 .move [.T 11]] none [])))
def s91 : SFunc := { fid := 91,mode := .pure,nparams := 1,nboxes := 0,clr := [],results := [.tmp 2 false],body :=
 (.seq (.region [ .o 2 .move [.const (.bool false)]] none [2]) (.seq (.region [ .o 5 (.call 109) [], .o 3 .move [.T 5]] none []) (.seq (.seq (.region [
 .o 4 .move [.const (.int .i64 0)]] none []) (.block 0 (.loop s91_l0))) (.seq (.region [ .o 2 .move [.const (.bool false)]] none []) .ret)))) }

/-- runrig/runrigref2.Name -/
def s92_l0 : SCode :=
 (.seq (.seq (.region [ .o 22 .move [.t 3], .o 23 .move [.t 0], .o 24 (.len .str) [.T 23], .o 25 (.bin .lss) [.T 22,.T 24]] none []) (.cond (.T 25) []
 .skip [0,3] (.exit 0))) (.seq (.block 1 (.seq (.region [ .o 28 .move [.t 0], .o 29 .move [.t 3], .o 30 .index [.T 28,.T 29], .o 31 (.call 89) [.T 30],
 .o 32 (.un .not) [.T 31], .o 33 .move [.T 32], .y 34 .move [.t 0] 33, .y 35 .move [.t 3] 33, .y 36 .index [.T 34,.T 35] 33, .y 37 (.call 93) [.T 36] 33,
 .y 38 (.un .not) [.T 37] 33, .o 39 .pick [.T 33,.T 38,.const (.bool false)]] none [34,35,36,37]) (.cond (.T 39) [0,3] (.seq (.region [
 .o 2 .move [.const (.bool false)]] none []) .ret) [] .skip))) (.region [ .o 26 .move [.T 3], .o 27 (.bin .add) [.T 26,.const (.int .i64 1)],
 .o 3 .move [.T 27]] none [])))
def s92 : SFunc := { fid := 92,mode := .pure,nparams := 1,nboxes := 0,clr := [],results := [.tmp 2 false],body :=
 (.seq (.region [ .o 2 .move [.const (.bool false)]] none [2]) (.seq (.seq (.region [ .o 4 .move [.t 0], .o 5 (.len .str) [.T 4],
 .o 6 (.bin .lss) [.T 5,.const (.int .i64 1)], .o 7 .move [.T 6], .z 8 .move [.t 0] 7, .z 9 (.len .str) [.T 8] 7,
 .z 10 (.bin .gtr) [.T 9,.const (.int .i64 8)] 7, .o 11 .pick [.T 7,.const (.bool true),.T 10], .o 12 .move [.T 11], .z 13 .move [.t 0] 12,
 .z 14 .index [.T 13,.const (.int .i64 0)] 12, .z 15 (.call 89) [.T 14] 12, .z 16 (.un .not) [.T 15] 12, .o 17 .pick [.T 12,.const (.bool true),.T 16],
 .o 18 .move [.T 17], .z 19 .move [.t 0] 18, .z 20 (.call 91) [.T 19] 18, .o 21 .pick [.T 18,.const (.bool true),.T 20]] none [8,9,13,14,15,19])
 (.cond (.T 21) [0] (.seq (.region [ .o 2 .move [.const (.bool false)]] none []) .ret) [] .skip)) (.seq (.seq (.region [
 .o 3 .move [.const (.int .i64 0)]] none []) (.block 0 (.loop s92_l0))) (.seq (.region [ .o 2 .move [.const (.bool true)]] none []) .ret)))) }

/-- runrig/runrigref2.digit -/

def s93 : SFunc := { fid := 93,mode := .pure,nparams := 1,nboxes := 0,clr := [],results := [.tmp 2 false],body :=
 (.seq (.region [ .o 2 .move [.const (.bool false)]] none [2]) (.seq (.region [ .o 3 .move [.t 0], .o 4 (.bin .geq) [.T 3,.const (.int .u8 48)],
 .o 5 .move [.T 4], .y 6 .move [.T 0] 5, .y 7 (.bin .leq) [.T 6,.const (.int .u8 57)] 5, .o 8 .pick [.T 5,.T 7,.const (.bool false)],
 .o 2 .move [.T 8]] none [0,6]) .ret)) }

/-- runrig/runrigref2.whole -/
def s94_l0 : SCode :=
 (.seq (.seq (.region [ .o 7 .move [.t 5], .o 8 .move [.t 0], .o 9 (.len .str) [.T 8], .o 10 (.bin .lss) [.T 7,.T 9]] none []) (.cond (.T 10) [] .skip [0,5]
 (.exit 0))) (.seq (.block 1 (.seq (.region [ .o 13 .move [.t 0], .o 14 .move [.t 5], .o 15 .index [.T 13,.T 14],
 .o 16 (.bin .sub) [.T 15,.const (.int .u8 48)], .o 17 (.conv .i64) [.T 16], .o 6 .move [.T 17]] none []) (.seq (.seq (.region [ .o 18 .move [.t 4],
 .o 19 .move [.t 6], .o 20 (.bin .sub) [.const (.int .i64 9223372036854775807),.T 19], .o 21 (.bin .quo) [.T 20,.const (.int .i64 10)],
 .o 22 (.bin .gtr) [.T 18,.T 21]] none []) (.cond (.T 22) [0,4,5,6] (.seq (.region [ .o 2 .move [.const (.int .i64 0)],
 .o 3 .move [.const (.bool false)]] none []) .ret) [] .skip)) (.region [ .o 23 .move [.T 4], .o 24 (.bin .mul) [.const (.int .i64 10),.T 23],
 .o 25 .move [.T 6], .o 26 (.bin .add) [.T 24,.T 25], .o 4 .move [.T 26]] none [])))) (.region [ .o 11 .move [.T 5],
 .o 12 (.bin .add) [.T 11,.const (.int .i64 1)], .o 5 .move [.T 12]] none [])))
def s94 : SFunc := { fid := 94,mode := .pure,nparams := 1,nboxes := 0,clr := [],results := [.tmp 2 false,.tmp 3 false],body :=
 (.seq (.region [ .o 2 .move [.const (.int .i64 0)], .o 3 .move [.const (.bool false)]] none [2,3]) (.seq (.region [
 .o 4 .move [.const (.int .i64 0)]] none []) (.seq (.seq (.region [ .o 5 .move [.const (.int .i64 0)]] none []) (.block 0 (.loop s94_l0))) (.seq (.region [
 .o 27 .move [.T 4], .o 2 .move [.T 27], .o 3 .move [.const (.bool true)]] none []) .ret)))) }

/-- runrig/runrigref2.sign -/
def s95_l0 : SCode :=
 (.seq (.seq (.region [ .o 10 .move [.t 6], .o 11 .move [.t 5], .o 12 (.len .sl) [.T 11], .o 13 (.bin .lss) [.T 10,.T 12]] none []) (.cond (.T 13) []
 .skip [5,6] (.exit 0))) (.seq (.block 1 (.seq (.region [ .o 16 .move [.t 0], .o 17 (.len .str) [.T 16], .o 18 .move [.t 1], .o 19 (.bin .sub) [.T 17,.T 18],
 .o 20 (.bin .geq) [.T 19,.const (.int .i64 2)], .o 21 .move [.T 20], .y 22 .move [.t 0] 21, .y 23 .move [.t 1] 21, .y 24 .move [.t 1] 21,
 .y 25 (.bin .add) [.T 24,.const (.int .i64 2)] 21, .y 26 (.slice true true true false 0) [.T 22,.T 23,.T 25] 21, .y 27 .move [.t 5] 21, .y 28 .move [.t 6] 21,
 .y 29 (.indexAddr 1) [.T 27,.T 28] 21, .y 30 (.load false 1 false) [.T 29] 21, .y 31 (.bin .eql) [.T 26,.T 30] 21,
 .o 32 .pick [.t 21,.T 31,.const (.bool false)]] (some []) [21,22,23,24,25,26,27,28,29,30]) (.cond (.T 32) [0,1] (.seq (.region [ .o 33 .move [.T 5],
 .o 34 .move [.T 6], .o 35 (.indexAddr 1) [.T 33,.T 34], .o 36 (.load false 1 false) [.T 35], .o 4 .move [.T 36]] none []) .ret) [] .skip))) (.region [
 .o 14 .move [.T 6], .o 15 (.bin .add) [.T 14,.const (.int .i64 1)], .o 6 .move [.T 15]] none [])))
def s95_l1 : SCode :=
 (.seq (.seq (.region [ .o 37 .move [.t 8], .o 38 .move [.t 7], .o 39 (.len .str) [.T 38], .o 40 (.bin .lss) [.T 37,.T 39]] none []) (.cond (.T 40) []
 .skip [0,1,7,8] (.exit 2))) (.seq (.block 3 (.seq (.region [ .o 43 .move [.t 0], .o 44 .move [.t 1], .o 45 .index [.T 43,.T 44], .o 46 .move [.t 7],
 .o 47 .move [.t 8], .o 48 .index [.T 46,.T 47], .o 49 (.bin .eql) [.T 45,.T 48]] (some []) []) (.cond (.T 49) [0,1] (.seq (.region [ .o 50 .move [.T 7],
 .o 51 .move [.t 8], .o 52 .move [.T 8], .o 53 (.bin .add) [.T 52,.const (.int .i64 1)], .o 54 (.slice true true true false 0) [.T 50,.T 51,.T 53],
 .o 4 .move [.T 54]] none []) .ret) [] .skip))) (.region [ .o 41 .move [.T 8], .o 42 (.bin .add) [.T 41,.const (.int .i64 1)], .o 8 .move [.T 42]] none [])))
def s95 : SFunc := { fid := 95,mode := .pure,nparams := 2,nboxes := 0,clr := [],results := [.tmp 4 false],body :=
 (.seq (.region [ .o 4 .move [.const (.str [])]] none [4]) (.seq (.region [
 .o 9 (.lit 1 5 [.str []] [0,1,2,3,4]) [.const (.str [60,61]),.const (.str [61,61]),.const (.str [33,61]),.const (.str [38,38]),.const (.str [124,124])],
 .o 5 .move [.T 9]] none []) (.seq (.seq (.region [ .o 6 .move [.const (.int .i64 0)]] none []) (.block 0 (.loop s95_l0))) (.seq (.region [
 .o 7 .move [.const (.str [123,125,40,41,91,93,59,58,44,46,61,43,45,42,47,37,60,33])]] none []) (.seq (.seq (.region [
 .o 8 .move [.const (.int .i64 0)]] none []) (.block 2 (.loop s95_l1))) (.seq (.region [ .o 4 .move [.const (.str [])]] none []) .ret)))))) }

/-- (*runrig/runrigref3.reader).opens -/

def s96 : SFunc := { fid := 96,mode := .scp,nparams := 2,nboxes := 0,clr := [],results := [],body :=
 (.seq (.seq (.region [ .o 4 .move [.t 0], .o 5 .move [.t 1], .o 6 (.call 34) [.T 4,.T 5], .o 7 .move [.T 6], .y 8 .move [.t 0] 7, .y 9 .nilCheck [.T 8] 7,
 .y 10 (.fieldAddr 2) [.T 9] 7, .y 11 (.load false 1 false) [.T 10] 7, .y 12 (.bin .geq) [.T 11,.const (.int .i64 50)] 7,
 .o 13 .pick [.T 7,.T 12,.const (.bool false)]] none [8,9,10,11]) (.cond (.T 13) [1] (.seq (.region [ .o 14 .move [.T 0],
 .o 15 (.call 35) [.T 14,.const (.int .i64 4)]] none [15]) .ret) [] .skip)) (.seq (.region [ .o 16 .move [.t 0], .o 17 .move [.T 1],
 .o 18 (.call 38) [.T 16,.T 17]] none [18]) (.region [ .o 19 .move [.T 0], .o 20 .nilCheck [.t 19], .o 21 (.fieldAddr 2) [.T 20],
 .o 22 (.load false 1 false) [.T 21], .o 23 (.bin .add) [.T 22,.const (.int .i64 1)], .o 24 .nilCheck [.T 19], .o 25 (.fieldAddr 2) [.T 24],
 .n (.store 1) [.T 25,.T 23]] none []))) }

/-- (*runrig/runrigref3.reader).stmt -/

def s97 : SFunc := { fid := 97,mode := .scp,nparams := 1,nboxes := 3,clr := [],results := [.box 2 0 9 true],body :=
 (.seq (.region [ .o 2 (.allocF 0 [.int .i64 0,.str [],.str [],.int .i64 0,.nilSl,.nilSl,.nilSl,.int .i64 0,.int .i64 0]) []] none []) (.seq (.region [
 .o 5 .move [.t 0], .o 6 (.call 33) [.T 5], .o 3 (.allocF 1 [.int .i64 0,.str [],.int .i64 0,.int .i64 0]) [], .n (.storeF 1 4) [.t 3,.T 6]] none []) (.seq
 (.region [ .o 7 (.fieldAddr 3) [.t 3], .o 8 (.loadF 1 false 1 false) [.T 7],
 .o 9 (.build [.int .i64 0,.str [],.str [],.int .i64 0,.nilSl,.nilSl,.nilSl,.int .i64 0,.int .i64 0] [(7,1)]) [.T 8],
 .o 4 (.allocF 2 [.int .i64 0,.str [],.str [],.int .i64 0,.nilSl,.nilSl,.nilSl,.int .i64 0,.int .i64 0]) [], .n (.storeF 2 9) [.t 4,.T 9]] none []) (.seq
 (.block 0 (.seq (.seq (.region [ .o 14 .move [.t 0], .o 15 (.call 34) [.T 14,.const (.str [118,97,114])], .o 13 .move [.T 15]] none []) (.cond (.t 13) []
 .skip [13] (.region [ .o 16 .move [.t 0], .o 17 (.call 34) [.T 16,.const (.str [108,101,116])], .o 13 .move [.T 17]] none []))) (.cond (.T 13) [] (.seq
 (.region [ .o 18 .move [.t 0], .o 19 .nilCheck [.t 18], .o 20 (.fieldAddr 1) [.T 19], .o 21 (.load false 1 false) [.T 20],
 .o 22 (.bin .add) [.T 21,.const (.int .i64 1)], .o 23 .nilCheck [.T 18], .o 24 (.fieldAddr 1) [.T 23], .n (.store 1) [.T 24,.T 22]] none []) (.seq (.region [
 .o 25 (.fieldAddr 0) [.t 4], .n (.storeF 2 1) [.T 25,.const (.int .i64 1)]] none []) (.seq (.region [ .o 26 .move [.t 0], .o 27 (.call 66) [.T 26],
 .o 28 (.fieldAddr 1) [.t 4], .n (.storeF 2 1) [.T 28,.T 27]] none []) (.seq (.region [ .o 29 .move [.t 0],
 .o 30 (.call 38) [.T 29,.const (.str [58])]] none [30]) (.seq (.region [ .o 31 .move [.t 0], .o 32 (.call 67) [.T 31], .o 33 (.fieldAddr 2) [.t 4],
 .n (.storeF 2 2) [.T 33,.T 32]] none []) (.seq (.seq (.region [ .o 34 (.fieldAddr 1) [.T 3], .o 35 (.loadF 1 false 1 false) [.T 34],
 .o 36 (.bin .eql) [.T 35,.const (.str [108,101,116])]] none []) (.cond (.T 36) [] (.seq (.region [ .o 37 (.fieldAddr 0) [.t 4],
 .n (.storeF 2 1) [.T 37,.const (.int .i64 2)]] none []) (.seq (.region [ .o 38 .move [.t 0], .o 39 (.call 38) [.T 38,.const (.str [61])]] none [39])
 (.region [ .o 40 .move [.t 0], .o 41 (.call 110) [.T 40,.const (.int .i64 0)],
 .o 42 (.lit 11 1 [.int .i64 0,.int .i64 0,.str [],.str [],.int .i64 0,.nilSl,.int .i64 0,.int .i64 0,.int .i64 0,.int .i64 0,.int .i64 0] [0]) [.T 41],
 .o 43 (.fieldAddr 4) [.t 4], .n (.storeF 2 1) [.T 43,.T 42]] none []))) [] .skip)) (.region [ .o 44 .move [.T 0],
 .o 45 (.call 38) [.T 44,.const (.str [59])]] none [45]))))))) [3] (.seq (.region [ .o 47 .move [.t 0], .o 48 (.call 34) [.T 47,.const (.str [105,102])],
 .o 46 .move [.T 48]] none []) (.cond (.T 46) [] (.seq (.region [ .o 49 .move [.t 0], .o 50 .nilCheck [.t 49], .o 51 (.fieldAddr 1) [.T 50],
 .o 52 (.load false 1 false) [.T 51], .o 53 (.bin .add) [.T 52,.const (.int .i64 1)], .o 54 .nilCheck [.T 49], .o 55 (.fieldAddr 1) [.T 54],
 .n (.store 1) [.T 55,.T 53]] none []) (.seq (.region [ .o 56 (.fieldAddr 0) [.t 4], .n (.storeF 2 1) [.T 56,.const (.int .i64 5)]] none []) (.seq (.region [
 .o 57 .move [.t 0], .o 58 (.call 110) [.T 57,.const (.int .i64 0)],
 .o 59 (.lit 11 1 [.int .i64 0,.int .i64 0,.str [],.str [],.int .i64 0,.nilSl,.int .i64 0,.int .i64 0,.int .i64 0,.int .i64 0,.int .i64 0] [0]) [.T 58],
 .o 60 (.fieldAddr 4) [.t 4], .n (.storeF 2 1) [.T 60,.T 59]] none []) (.seq (.region [ .o 61 .move [.t 0], .o 62 (.call 68) [.T 61],
 .o 63 (.fieldAddr 5) [.t 4], .n (.storeF 2 1) [.T 63,.T 62]] none []) (.seq (.region [ .o 64 .move [.t 0],
 .o 65 (.call 34) [.T 64,.const (.str [101,108,115,101])]] none []) (.cond (.T 65) [] (.seq (.region [ .o 66 .move [.t 0], .o 67 .nilCheck [.t 66],
 .o 68 (.fieldAddr 1) [.T 67], .o 69 (.load false 1 false) [.T 68], .o 70 (.bin .add) [.T 69,.const (.int .i64 1)], .o 71 .nilCheck [.T 66],
 .o 72 (.fieldAddr 1) [.T 71], .n (.store 1) [.T 72,.T 70]] none []) (.region [ .o 73 .move [.T 0], .o 74 (.call 68) [.T 73], .o 75 (.fieldAddr 6) [.t 4],
 .n (.storeF 2 1) [.T 75,.T 74]] none [])) [0] .skip)))))) [] (.seq (.region [ .o 77 .move [.t 0],
 .o 78 (.call 34) [.T 77,.const (.str [119,104,105,108,101])], .o 76 .move [.T 78]] none []) (.cond (.T 76) [] (.seq (.region [ .o 79 .move [.t 0],
 .o 80 .nilCheck [.t 79], .o 81 (.fieldAddr 1) [.T 80], .o 82 (.load false 1 false) [.T 81], .o 83 (.bin .add) [.T 82,.const (.int .i64 1)],
 .o 84 .nilCheck [.T 79], .o 85 (.fieldAddr 1) [.T 84], .n (.store 1) [.T 85,.T 83]] none []) (.seq (.region [ .o 86 (.fieldAddr 0) [.t 4],
 .n (.storeF 2 1) [.T 86,.const (.int .i64 6)]] none []) (.seq (.region [ .o 87 .move [.t 0], .o 88 (.call 110) [.T 87,.const (.int .i64 0)],
 .o 89 (.lit 11 1 [.int .i64 0,.int .i64 0,.str [],.str [],.int .i64 0,.nilSl,.int .i64 0,.int .i64 0,.int .i64 0,.int .i64 0,.int .i64 0] [0]) [.T 88],
 .o 90 (.fieldAddr 4) [.t 4], .n (.storeF 2 1) [.T 90,.T 89]] none []) (.region [ .o 91 .move [.T 0], .o 92 (.call 68) [.T 91], .o 93 (.fieldAddr 5) [.t 4],
 .n (.storeF 2 1) [.T 93,.T 92]] none [])))) [] (.seq (.region [ .o 95 .move [.t 0], .o 96 (.call 34) [.T 95,.const (.str [114,101,116,117,114,110])],
 .o 94 .move [.T 96]] none []) (.cond (.T 94) [] (.seq (.region [ .o 97 .move [.t 0], .o 98 .nilCheck [.t 97], .o 99 (.fieldAddr 1) [.T 98],
 .o 100 (.load false 1 false) [.T 99], .o 101 (.bin .add) [.T 100,.const (.int .i64 1)], .o 102 .nilCheck [.T 97], .o 103 (.fieldAddr 1) [.T 102],
 .n (.store 1) [.T 103,.T 101]] none []) (.seq (.region [ .o 104 (.fieldAddr 0) [.t 4], .n (.storeF 2 1) [.T 104,.const (.int .i64 7)]] none []) (.seq (.seq
 (.region [ .o 105 .move [.t 0], .o 106 (.call 34) [.T 105,.const (.str [59])], .o 107 (.un .not) [.T 106]] none []) (.cond (.T 107) [] (.region [
 .o 108 .move [.t 0], .o 109 (.call 110) [.T 108,.const (.int .i64 0)],
 .o 110 (.lit 11 1 [.int .i64 0,.int .i64 0,.str [],.str [],.int .i64 0,.nilSl,.int .i64 0,.int .i64 0,.int .i64 0,.int .i64 0,.int .i64 0] [0]) [.T 109],
 .o 111 (.fieldAddr 4) [.t 4], .n (.storeF 2 1) [.T 111,.T 110]] none []) [] .skip)) (.region [ .o 112 .move [.T 0],
 .o 113 (.call 38) [.T 112,.const (.str [59])]] none [113])))) [] (.seq (.region [ .o 115 .move [.t 0],
 .o 116 (.call 34) [.T 115,.const (.str [112,114,105,110,116])], .o 114 .move [.T 116]] none []) (.cond (.T 114) [] (.seq (.region [ .o 117 .move [.t 0],
 .o 118 .nilCheck [.t 117], .o 119 (.fieldAddr 1) [.T 118], .o 120 (.load false 1 false) [.T 119], .o 121 (.bin .add) [.T 120,.const (.int .i64 1)],
 .o 122 .nilCheck [.T 117], .o 123 (.fieldAddr 1) [.T 122], .n (.store 1) [.T 123,.T 121]] none []) (.seq (.region [ .o 124 (.fieldAddr 0) [.t 4],
 .n (.storeF 2 1) [.T 124,.const (.int .i64 8)]] none []) (.seq (.region [ .o 125 .move [.t 0], .o 126 (.call 110) [.T 125,.const (.int .i64 0)],
 .o 127 (.lit 11 1 [.int .i64 0,.int .i64 0,.str [],.str [],.int .i64 0,.nilSl,.int .i64 0,.int .i64 0,.int .i64 0,.int .i64 0,.int .i64 0] [0]) [.T 126],
 .o 128 (.fieldAddr 4) [.t 4], .n (.storeF 2 1) [.T 128,.T 127]] none []) (.region [ .o 129 .move [.T 0],
 .o 130 (.call 38) [.T 129,.const (.str [59])]] none [130])))) [] (.seq (.region [ .o 10 .move [.T 0], .o 11 (.loadF 2 true 9 false) [.T 4],
 .o 12 (.call 111) [.T 10,.T 11], .n (.storeF 0 9) [.t 2,.T 12]] none []) .ret)))))))))))) (.seq (.region [ .o 131 (.loadF 2 true 9 false) [.T 4],
 .n (.storeF 0 9) [.t 2,.T 131]] none []) .ret))))) }

/-- (*runrig/runrigref3.reader).closes -/

def s98 : SFunc := { fid := 98,mode := .scp,nparams := 2,nboxes := 0,clr := [],results := [],body :=
 (.seq (.region [ .o 4 .move [.t 0], .o 5 .move [.T 1], .o 6 (.call 38) [.T 4,.T 5]] none [6]) (.region [ .o 7 .move [.T 0], .o 8 .nilCheck [.t 7],
 .o 9 (.fieldAddr 2) [.T 8], .o 10 (.load false 1 false) [.T 9], .o 11 (.bin .sub) [.T 10,.const (.int .i64 1)], .o 12 .nilCheck [.T 7],
 .o 13 (.fieldAddr 2) [.T 12], .n (.store 1) [.T 13,.T 11]] none [])) }

/-- runrig/runrigref7.wrong -/

def s99 : SFunc := { fid := 99,mode := .pure,nparams := 1,nboxes := 1,clr := [],results := [.box 2 0 2 true],body :=
 (.seq (.region [ .o 2 (.allocF 0 [.int .i64 0,.int .i64 0]) []] none []) (.seq (.region [ .o 3 .move [.T 0],
 .o 4 (.build [.int .i64 0,.int .i64 0] [(0,1),(1,1)]) [.const (.int .i64 3),.T 3], .n (.storeF 0 2) [.t 2,.T 4]] none []) .ret)) }

/-- runrig/runrigref7.fields -/
def s100_l0 : SCode :=
 (.seq (.seq (.region [ .o 27 .move [.t 10], .o 28 .move [.t 7], .o 29 (.bin .lss) [.T 27,.T 28]] none []) (.cond (.T 29) [] .skip [10] (.exit 2))) (.seq
 (.block 3 (.region [ .o 32 .move [.T 9], .o 33 .move [.T 32], .y 34 .move [.t 1] 33, .y 35 .move [.t 10] 33, .y 36 (.indexAddr 4) [.T 34,.T 35] 33,
 .y 37 (.fieldAddr 0) [.T 36] 33, .y 38 (.load false 1 false) [.T 37] 33, .y 39 .move [.t 1] 33, .y 40 .move [.t 7] 33, .y 41 (.indexAddr 4) [.T 39,.T 40] 33,
 .y 42 (.fieldAddr 0) [.T 41] 33, .y 43 (.load false 1 false) [.T 42] 33, .y 44 (.bin .neq) [.T 38,.T 43] 33, .o 45 .pick [.t 33,.T 44,.const (.bool false)],
 .o 9 .move [.T 45]] (some []) [33,34,35,36,37,38,39,40,41,42,43])) (.region [ .o 30 .move [.T 10], .o 31 (.bin .add) [.T 30,.const (.int .i64 1)],
 .o 10 .move [.T 31]] none [])))
def s100_l1 : SCode :=
 (.seq (.seq (.region [ .o 11 .move [.t 7], .o 12 .move [.t 1], .o 13 (.len .sl) [.T 12], .o 14 (.bin .lss) [.T 11,.T 13]] none []) (.cond (.T 14) []
 .skip [0,1,7] (.exit 0))) (.seq (.block 1 (.seq (.region [ .o 18 .move [.t 0], .o 19 .move [.t 1], .o 20 .move [.t 7], .o 21 (.indexAddr 4) [.T 19,.T 20],
 .o 22 (.fieldAddr 1) [.T 21], .o 23 (.load true 2 false) [.T 22], .o 24 (.call 101) [.T 18,.T 23], .o 17 .move [.T 24], .o 25 (.extract 0) [.t 17],
 .o 26 (.extract 1) [.T 17], .o 8 (.allocF 1 [.int .i64 0,.int .i64 0,.int .i64 0]) [], .n (.storeF 1 3) [.t 8,.T 25], .o 9 .move [.T 26]] none []) (.seq (.seq
 (.region [ .o 10 .move [.const (.int .i64 0)]] none []) (.block 2 (.loop s100_l0))) (.seq (.seq (.region [ .o 46 .move [.T 9],
 .o 47 (.un .not) [.T 46]] none []) (.cond (.T 47) [0,6,8] (.seq (.region [ .o 48 .move [.T 1], .o 49 .move [.T 7], .o 50 (.indexAddr 4) [.T 48,.T 49],
 .o 51 (.fieldAddr 3) [.T 50], .o 52 (.load false 1 false) [.T 51], .o 53 (.call 99) [.T 52], .o 4 .move [.const .nilSl],
 .n (.storeF 0 2) [.t 5,.T 53]] none []) .ret) [] .skip)) (.region [ .o 54 .move [.T 6], .o 55 .move [.t 1], .o 56 .move [.t 7],
 .o 57 (.indexAddr 4) [.T 55,.T 56], .o 58 (.fieldAddr 0) [.T 57], .o 59 (.load false 1 false) [.T 58], .o 60 (.loadF 1 true 3 false) [.T 8],
 .o 61 (.build [.str [],.int .i64 0,.int .i64 0,.int .i64 0] [(0,1),(1,3)]) [.T 59,.T 60],
 .o 62 (.lit 4 1 [.str [],.int .i64 0,.int .i64 0,.int .i64 0] [0]) [.T 61], .o 63 (.append 4 40) [.T 54,.T 62], .o 6 .move [.T 63]] (some []) [])))))
 (.region [ .o 15 .move [.T 7], .o 16 (.bin .add) [.T 15,.const (.int .i64 1)], .o 7 .move [.T 16]] none [])))
def s100 : SFunc := { fid := 100,mode := .pure,nparams := 2,nboxes := 2,clr := [],results := [.tmp 4 true,.box 5 0 2 true],body :=
 (.seq (.region [ .o 4 .move [.const .nilSl], .o 5 (.allocF 0 [.int .i64 0,.int .i64 0]) []] none [4]) (.seq (.region [ .o 6 .move [.const .nilSl]] none [])
 (.seq (.seq (.region [ .o 7 .move [.const (.int .i64 0)]] none []) (.block 0 (.loop s100_l1))) (.seq (.region [ .o 64 .move [.T 6],
 .o 65 (.build [.int .i64 0,.int .i64 0] []) [], .o 4 .move [.T 64], .n (.storeF 0 2) [.t 5,.T 65]] none []) .ret)))) }

/-- runrig/runrigref7.Type -/
def s101_l0 : SCode :=
 (.seq (.seq (.region [ .o 28 .move [.t 6], .o 29 .move [.t 0], .o 30 (.len .sl) [.T 29], .o 31 (.bin .lss) [.T 28,.T 30]] none []) (.cond (.T 31) []
 .skip [0,3,6] (.exit 1))) (.seq (.block 2 (.seq (.region [ .o 34 .move [.t 0], .o 35 .move [.t 6], .o 36 (.indexAddr 1) [.T 34,.T 35],
 .o 37 (.load false 1 false) [.T 36], .o 38 (.fieldAddr 0) [.t 3], .o 39 (.loadF 0 false 1 false) [.T 38], .o 40 (.bin .eql) [.T 37,.T 39]] (some []) [])
 (.cond (.T 40) [0] (.seq (.region [ .o 41 .move [.T 6], .o 42 (.fieldAddr 1) [.T 3], .o 43 (.loadF 0 false 1 false) [.T 42],
 .o 44 (.build [.int .i64 0,.int .i64 0,.int .i64 0] [(0,1),(1,1),(2,1)]) [.const (.int .i64 3),.T 41,.T 43], .n (.storeF 1 3) [.t 4,.T 44],
 .o 5 .move [.const (.bool true)]] none []) .ret) [] .skip))) (.region [ .o 32 .move [.T 6], .o 33 (.bin .add) [.T 32,.const (.int .i64 1)],
 .o 6 .move [.T 33]] none [])))
def s101 : SFunc := { fid := 101,mode := .pure,nparams := 2,nboxes := 2,clr := [],results := [.box 4 1 3 true,.tmp 5 false],body :=
 (.seq (.region [ .o 3 (.boxF 0 2) [.T 1], .o 4 (.allocF 1 [.int .i64 0,.int .i64 0,.int .i64 0]) [], .o 5 .move [.const (.bool false)]] none [5]) (.seq (.seq
 (.region [ .o 7 (.fieldAddr 1) [.t 3], .o 8 (.loadF 0 false 1 false) [.T 7], .o 9 (.bin .lss) [.T 8,.const (.int .i64 0)], .o 10 .move [.T 9],
 .z 11 (.fieldAddr 1) [.t 3] 10, .z 12 (.loadF 0 false 1 false) [.T 11] 10, .z 13 (.bin .gtr) [.T 12,.const (.int .i64 3)] 10,
 .o 14 .pick [.T 10,.const (.bool true),.T 13]] none [11,12]) (.cond (.T 14) [0,3] (.seq (.region [ .o 15 (.build [.int .i64 0,.int .i64 0,.int .i64 0] []) [],
 .n (.storeF 1 3) [.t 4,.T 15], .o 5 .move [.const (.bool false)]] none []) .ret) [] .skip)) (.seq (.seq (.region [ .o 16 (.fieldAddr 0) [.t 3],
 .o 17 (.loadF 0 false 1 false) [.T 16]] none []) (.block 0 (.seq (.region [ .o 19 (.bin .eql) [.t 17,.const (.str [105,110,116])],
 .o 18 .move [.T 19]] none []) (.cond (.T 18) [0,17] (.seq (.region [ .o 20 (.fieldAddr 1) [.T 3], .o 21 (.loadF 0 false 1 false) [.T 20],
 .o 22 (.build [.int .i64 0,.int .i64 0,.int .i64 0] [(0,1),(2,1)]) [.const (.int .i64 1),.T 21], .n (.storeF 1 3) [.t 4,.T 22],
 .o 5 .move [.const (.bool true)]] none []) .ret) [] (.seq (.region [ .o 24 (.bin .eql) [.T 17,.const (.str [98,111,111,108])], .o 23 .move [.T 24]] none [])
 (.cond (.T 23) [0] (.seq (.region [ .o 25 (.fieldAddr 1) [.T 3], .o 26 (.loadF 0 false 1 false) [.T 25],
 .o 27 (.build [.int .i64 0,.int .i64 0,.int .i64 0] [(0,1),(2,1)]) [.const (.int .i64 2),.T 26], .n (.storeF 1 3) [.t 4,.T 27],
 .o 5 .move [.const (.bool true)]] none []) .ret) [] .skip)))))) (.seq (.seq (.region [ .o 6 .move [.const (.int .i64 0)]] none []) (.block 1 (.loop s101_l0)))
 (.seq (.region [ .o 45 (.build [.int .i64 0,.int .i64 0,.int .i64 0] []) [], .n (.storeF 1 3) [.t 4,.T 45], .o 5 .move [.const (.bool false)]] none [])
 .ret))))) }

/-- (*runrig/runrigref7.checker).stmt -/
def s102_l0 : SCode :=
 (.seq (.seq (.region [ .o 60 .move [.t 10], .o 61 (.fieldAddr 4) [.t 3], .o 62 (.loadF 0 false 1 false) [.T 61], .o 63 (.len .sl) [.T 62],
 .o 64 (.bin .lss) [.T 60,.T 63], .o 65 .move [.T 64], .y 66 .move [.t 0] 65, .y 67 (.call 72) [.T 66] 65,
 .o 68 .pick [.T 65,.T 67,.const (.bool false)]] none [66]) (.cond (.T 68) [] .skip [10] (.exit 0))) (.seq (.block 1 (.seq (.region [
 .o 71 (.fieldAddr 0) [.t 3], .o 72 (.loadF 0 false 1 false) [.T 71], .o 73 (.bin .eql) [.T 72,.const (.int .i64 9)]] none []) (.cond (.T 73) [] (.region [
 .o 74 (.fieldAddr 4) [.t 5], .o 75 (.loadF 2 false 1 true) [.T 74], .o 76 .move [.t 0], .o 77 (.fieldAddr 4) [.t 3], .o 78 (.loadF 0 false 1 false) [.T 77],
 .o 79 .move [.t 10], .o 80 (.indexAddr 11) [.T 78,.T 79], .o 81 (.load true 11 false) [.T 80], .o 82 (.call 114) [.T 76,.T 81],
 .o 83 (.lit 11 1 [.int .i64 0,.int .i64 0,.str [],.str [],.int .i64 0,.nilSl,.int .i64 0,.int .i64 0,.int .i64 0,.int .i64 0,.int .i64 0] [0]) [.T 82],
 .o 84 (.append 11 120) [.T 75,.T 83], .o 85 (.fieldAddr 4) [.t 5], .n (.storeF 2 1) [.T 85,.T 84]] (some []) []) [] (.region [ .o 86 (.fieldAddr 4) [.t 5],
 .o 87 (.loadF 2 false 1 true) [.T 86], .o 88 .move [.t 0], .o 89 (.fieldAddr 4) [.t 3], .o 90 (.loadF 0 false 1 false) [.T 89], .o 91 .move [.t 10],
 .o 92 (.indexAddr 11) [.T 90,.T 91], .o 93 (.load true 11 false) [.T 92], .o 94 (.call 115) [.T 88,.T 93],
 .o 95 (.lit 11 1 [.int .i64 0,.int .i64 0,.str [],.str [],.int .i64 0,.nilSl,.int .i64 0,.int .i64 0,.int .i64 0,.int .i64 0,.int .i64 0] [0]) [.T 94],
 .o 96 (.append 11 120) [.T 87,.T 95], .o 97 (.fieldAddr 4) [.t 5], .n (.storeF 2 1) [.T 97,.T 96]] (some []) [])))) (.region [ .o 69 .move [.T 10],
 .o 70 (.bin .add) [.T 69,.const (.int .i64 1)], .o 10 .move [.T 70]] none [])))
def s102_l1 : SCode :=
 (.seq (.seq (.region [ .o 189 .move [.t 15], .o 190 .move [.t 0], .o 191 .nilCheck [.T 190], .o 192 (.fieldAddr 11) [.T 191],
 .o 193 (.load false 1 false) [.T 192], .o 194 (.len .sl) [.T 193], .o 195 (.bin .lss) [.T 189,.T 194]] none []) (.cond (.T 195) [] .skip [15] (.exit 3)))
 (.seq (.block 4 (.region [ .o 198 .move [.T 11], .o 199 .move [.T 198], .y 200 .move [.t 0] 199, .y 201 .nilCheck [.T 200] 199,
 .y 202 (.fieldAddr 11) [.T 201] 199, .y 203 (.load false 1 false) [.T 202] 199, .y 204 .move [.t 15] 199, .y 205 (.indexAddr 4) [.T 203,.T 204] 199,
 .y 206 (.fieldAddr 0) [.T 205] 199, .y 207 (.load false 1 false) [.T 206] 199, .y 208 (.fieldAddr 1) [.t 3] 199, .y 209 (.loadF 0 false 1 false) [.T 208] 199,
 .y 210 (.bin .neq) [.T 207,.T 209] 199, .o 211 .pick [.t 199,.T 210,.const (.bool false)],
 .o 11 .move [.T 211]] (some []) [199,200,201,202,203,204,205,206,207,208,209])) (.region [ .o 196 .move [.T 15],
 .o 197 (.bin .add) [.T 196,.const (.int .i64 1)], .o 15 .move [.T 197]] none [])))
def s102 : SFunc := { fid := 102,mode := .scp,nparams := 2,nboxes := 6,clr := [],results := [.box 4 1 9 true],body :=
 (.seq (.region [ .o 3 (.boxF 0 9) [.T 1], .o 4 (.allocF 1 [.int .i64 0,.str [],.str [],.int .i64 0,.nilSl,.nilSl,.nilSl,.int .i64 0,.int .i64 0]) []] none [])
 (.seq (.region [ .o 16 (.fieldAddr 0) [.t 3], .o 17 (.loadF 0 false 1 false) [.T 16], .o 18 (.fieldAddr 7) [.t 3], .o 19 (.loadF 0 false 1 false) [.T 18],
 .o 20 (.build [.int .i64 0,.str [],.str [],.int .i64 0,.nilSl,.nilSl,.nilSl,.int .i64 0,.int .i64 0] [(0,1),(7,1)]) [.T 17,.T 19],
 .o 5 (.allocF 2 [.int .i64 0,.str [],.str [],.int .i64 0,.nilSl,.nilSl,.nilSl,.int .i64 0,.int .i64 0]) [], .n (.storeF 2 9) [.t 5,.T 20]] none []) (.seq
 (.seq (.region [ .o 21 .move [.t 0], .o 22 (.loadF 0 true 9 false) [.t 3], .o 23 (.call 112) [.T 21,.T 22], .o 24 (.un .not) [.T 23]] none [])
 (.cond (.T 24) [] (.seq (.region [ .o 25 .move [.T 0], .o 26 (.fieldAddr 7) [.T 3], .o 27 (.loadF 0 false 1 false) [.T 26],
 .o 28 (.call 113) [.T 25,.T 27]] none [28]) (.seq (.region [ .o 29 (.loadF 2 true 9 false) [.T 5], .n (.storeF 1 9) [.t 4,.T 29]] none []) .ret)) [] .skip))
 (.seq (.region [ .o 6 (.allocF 3 [.int .i64 0,.int .i64 0,.int .i64 0]) []] none []) (.seq (.region [ .o 30 (.fieldAddr 0) [.t 3],
 .o 31 (.loadF 0 false 1 false) [.T 30], .o 32 (.bin .eql) [.T 31,.const (.int .i64 1)], .o 33 .move [.T 32], .z 34 (.fieldAddr 0) [.t 3] 33,
 .z 35 (.loadF 0 false 1 false) [.T 34] 33, .z 36 (.bin .eql) [.T 35,.const (.int .i64 2)] 33, .o 37 .pick [.T 33,.const (.bool true),.T 36],
 .o 7 .move [.T 37]] none [34,35]) (.seq (.seq (.region [ .o 38 .move [.t 7]] none []) (.cond (.T 38) [] (.seq (.region [ .o 40 .move [.t 0],
 .o 41 .nilCheck [.T 40], .o 42 (.fieldAddr 4) [.T 41], .o 43 (.load false 1 false) [.T 42], .o 44 (.fieldAddr 2) [.t 3],
 .o 45 (.loadF 0 true 2 false) [.T 44], .o 46 (.call 101) [.T 43,.T 45], .o 39 .move [.T 46], .o 47 (.extract 0) [.t 39], .o 48 (.extract 1) [.t 39],
 .o 8 (.allocF 4 [.int .i64 0,.int .i64 0,.int .i64 0]) [], .n (.storeF 4 3) [.t 8,.T 47], .o 9 .move [.T 48]] (some []) [39]) (.seq (.seq (.region [
 .o 49 .move [.T 9], .o 50 (.un .not) [.T 49]] none []) (.cond (.T 50) [6,7,8] (.seq (.region [ .o 51 .move [.T 0], .o 52 (.fieldAddr 7) [.T 3],
 .o 53 (.loadF 0 false 1 false) [.T 52], .o 54 (.call 113) [.T 51,.T 53]] none [54]) (.seq (.region [ .o 55 (.loadF 2 true 9 false) [.T 5],
 .n (.storeF 1 9) [.t 4,.T 55]] none []) .ret)) [] .skip)) (.seq (.region [ .o 56 (.loadF 4 true 3 false) [.T 8], .n (.storeF 3 3) [.t 6,.T 56]] none [])
 (.region [ .o 57 (.fieldAddr 2) [.t 3], .o 58 (.loadF 0 true 2 false) [.T 57], .o 59 (.fieldAddr 2) [.t 5], .n (.storeF 2 2) [.T 59,.T 58]] none [])))) []
 .skip)) (.seq (.seq (.region [ .o 10 .move [.const (.int .i64 0)]] none []) (.block 0 (.loop s102_l0))) (.seq (.seq (.region [ .o 98 .move [.t 0],
 .o 99 (.call 72) [.T 98], .o 100 (.un .not) [.T 99]] none []) (.cond (.T 100) [0,3,6,7] (.seq (.region [ .o 101 (.loadF 2 true 9 false) [.T 5],
 .n (.storeF 1 9) [.t 4,.T 101]] none []) .ret) [] .skip)) (.seq (.region [ .o 11 .move [.const (.bool true)]] none []) (.seq (.seq (.region [
 .o 102 (.fieldAddr 0) [.t 3], .o 103 (.loadF 0 false 1 false) [.T 102]] none []) (.block 2 (.seq (.region [ .o 105 (.bin .eql) [.t 103,.const (.int .i64 2)],
 .o 104 .move [.T 105]] none []) (.cond (.T 104) [11,103] (.region [ .o 106 (.fieldAddr 4) [.t 5], .o 107 (.loadF 2 false 1 false) [.T 106],
 .o 108 (.indexAddr 11) [.T 107,.const (.int .i64 0)], .o 109 (.fieldAddr 7) [.T 108], .o 110 (.load true 3 false) [.T 109],
 .o 111 (.loadF 3 true 3 false) [.t 6], .o 112 (.eqv (.flat [.int,.int,.int]) false) [.T 110,.T 111], .o 11 .move [.T 112]] (some []) []) [] (.seq (.region [
 .o 114 (.bin .eql) [.t 103,.const (.int .i64 3)], .o 113 .move [.T 114]] none []) (.cond (.T 113) [11,103] (.seq (.region [ .o 116 .move [.t 0],
 .o 117 (.fieldAddr 1) [.t 3], .o 118 (.loadF 0 false 1 false) [.T 117], .o 119 (.call 116) [.T 116,.T 118], .o 115 .move [.T 119],
 .o 120 (.extract 0) [.t 115], .o 121 (.extract 1) [.t 115], .o 122 (.extract 2) [.T 115], .o 13 (.allocF 5 [.int .i64 0,.int .i64 0,.int .i64 0]) [],
 .o 12 .move [.T 120], .n (.storeF 5 3) [.t 13,.T 121], .o 14 .move [.T 122]] none []) (.seq (.region [ .o 123 .move [.T 12], .o 124 (.fieldAddr 8) [.t 5],
 .n (.storeF 2 1) [.T 124,.T 123]] none []) (.region [ .o 125 .move [.T 14], .o 126 .move [.T 125], .y 127 (.loadF 5 true 3 false) [.T 13] 126,
 .y 128 (.fieldAddr 4) [.t 5] 126, .y 129 (.loadF 2 false 1 false) [.T 128] 126, .y 130 (.indexAddr 11) [.T 129,.const (.int .i64 0)] 126,
 .y 131 (.fieldAddr 7) [.T 130] 126, .y 132 (.load true 3 false) [.T 131] 126, .y 133 (.eqv (.flat [.int,.int,.int]) false) [.T 127,.T 132] 126,
 .o 134 .pick [.t 126,.T 133,.const (.bool false)], .o 11 .move [.T 134]] (some []) [13,126,127,128,129,130,131,132]))) [] (.seq (.region [
 .o 136 (.bin .eql) [.t 103,.const (.int .i64 4)], .o 135 .move [.T 136]] none []) (.cond (.T 135) [11,103] (.region [ .o 137 (.fieldAddr 4) [.t 5],
 .o 138 (.loadF 2 false 1 false) [.T 137], .o 139 (.indexAddr 11) [.T 138,.const (.int .i64 0)], .o 140 (.fieldAddr 7) [.T 139],
 .o 141 (.load true 3 false) [.T 140], .o 142 (.fieldAddr 4) [.t 5], .o 143 (.loadF 2 false 1 false) [.T 142],
 .o 144 (.indexAddr 11) [.T 143,.const (.int .i64 1)], .o 145 (.fieldAddr 7) [.T 144], .o 146 (.load true 3 false) [.T 145],
 .o 147 (.eqv (.flat [.int,.int,.int]) false) [.T 141,.T 146], .o 11 .move [.T 147]] (some []) []) [] (.seq (.seq (.region [
 .o 149 (.bin .eql) [.t 103,.const (.int .i64 5)], .o 148 .move [.T 149]] none []) (.cond (.t 148) [] .skip [148] (.region [
 .o 150 (.bin .eql) [.t 103,.const (.int .i64 6)], .o 148 .move [.T 150]] none []))) (.cond (.T 148) [11,103] (.region [ .o 151 (.fieldAddr 4) [.t 5],
 .o 152 (.loadF 2 false 1 false) [.T 151], .o 153 (.indexAddr 11) [.T 152,.const (.int .i64 0)], .o 154 (.fieldAddr 7) [.T 153],
 .o 155 (.load true 3 false) [.T 154], .o 156 (.call 117) [], .o 157 (.eqv (.flat [.int,.int,.int]) false) [.T 155,.T 156],
 .o 11 .move [.T 157]] (some []) []) [] (.seq (.region [ .o 159 (.bin .eql) [.t 103,.const (.int .i64 7)], .o 158 .move [.T 159]] none [])
 (.cond (.T 158) [11,103] (.region [ .o 160 .move [.t 0], .o 161 .nilCheck [.T 160], .o 162 (.fieldAddr 5) [.T 161], .o 163 (.fieldAddr 2) [.T 162],
 .o 164 (.load false 1 false) [.T 163], .o 165 (.un .not) [.T 164], .o 166 .move [.T 165], .z 167 (.fieldAddr 4) [.t 5] 166,
 .z 168 (.loadF 2 false 1 false) [.T 167] 166, .z 169 (.indexAddr 11) [.T 168,.const (.int .i64 0)] 166, .z 170 (.fieldAddr 7) [.T 169] 166,
 .z 171 (.load true 3 false) [.T 170] 166, .z 172 .move [.t 0] 166, .z 173 .nilCheck [.T 172] 166, .z 174 (.fieldAddr 5) [.T 173] 166,
 .z 175 (.fieldAddr 3) [.T 174] 166, .z 176 (.load true 3 false) [.T 175] 166, .z 177 (.eqv (.flat [.int,.int,.int]) false) [.T 171,.T 176] 166,
 .o 178 .pick [.t 166,.const (.bool true),.T 177], .o 11 .move [.T 178]] (some []) [166,167,168,169,170,171,172,173,174,175,176]) [] (.seq (.region [
 .o 180 (.bin .eql) [.T 103,.const (.int .i64 8)], .o 179 .move [.T 180]] none []) (.cond (.T 179) [11] (.region [ .o 181 (.fieldAddr 4) [.t 5],
 .o 182 (.loadF 2 false 1 false) [.T 181], .o 183 (.indexAddr 11) [.T 182,.const (.int .i64 0)], .o 184 (.fieldAddr 7) [.T 183],
 .o 185 (.load true 3 false) [.T 184], .o 186 (.call 118) [], .o 187 (.eqv (.flat [.int,.int,.int]) false) [.T 185,.T 186],
 .o 11 .move [.T 187]] (some []) []) [] .skip)))))))))))))) (.seq (.seq (.region [ .o 188 .move [.t 7]] none []) (.cond (.T 188) [] (.seq (.seq (.region [
 .o 15 .move [.const (.int .i64 0)]] none []) (.block 3 (.loop s102_l1))) (.region [ .o 212 .move [.t 0], .o 213 .nilCheck [.T 212],
 .o 214 (.fieldAddr 11) [.T 213], .o 215 (.load false 1 false) [.T 214], .o 216 (.len .sl) [.T 215], .o 217 (.fieldAddr 8) [.t 5],
 .n (.storeF 2 1) [.T 217,.T 216]] none [])) [] .skip)) (.seq (.seq (.region [ .o 218 .move [.T 11], .o 219 (.un .not) [.T 218]] none []) (.cond (.T 219) [6,7]
 (.seq (.region [ .o 220 .move [.T 0], .o 221 (.fieldAddr 7) [.T 3], .o 222 (.loadF 0 false 1 false) [.T 221], .o 223 (.call 113) [.T 220,.T 222]] none [223])
 (.seq (.region [ .o 224 (.loadF 2 true 9 false) [.T 5], .n (.storeF 1 9) [.t 4,.T 224]] none []) .ret)) [] .skip)) (.seq (.seq (.region [
 .o 225 .move [.t 7]] none []) (.cond (.T 225) [] (.region [ .o 226 .move [.t 0], .o 227 .move [.t 0], .o 228 .nilCheck [.T 227],
 .o 229 (.fieldAddr 11) [.T 228], .o 230 (.load false 1 true) [.T 229], .o 231 (.fieldAddr 1) [.t 3], .o 232 (.loadF 0 false 1 false) [.T 231],
 .o 233 (.loadF 3 true 3 false) [.T 6], .o 234 (.build [.str [],.int .i64 0,.int .i64 0,.int .i64 0] [(0,1),(1,3)]) [.T 232,.T 233],
 .o 235 (.lit 4 1 [.str [],.int .i64 0,.int .i64 0,.int .i64 0] [0]) [.T 234], .o 236 (.append 4 40) [.T 230,.T 235], .o 237 .nilCheck [.T 226],
 .o 238 (.fieldAddr 11) [.T 237], .n (.store 1) [.T 238,.T 236]] (some []) []) [6] .skip)) (.seq (.seq (.region [ .o 239 .move [.T 7], .o 240 .move [.T 239],
 .z 241 (.fieldAddr 0) [.t 3] 240, .z 242 (.loadF 0 false 1 false) [.T 241] 240, .z 243 (.bin .eql) [.T 242,.const (.int .i64 3)] 240,
 .o 244 .pick [.T 240,.const (.bool true),.T 243]] none [241,242]) (.cond (.T 244) [] (.region [ .o 245 (.fieldAddr 1) [.t 3],
 .o 246 (.loadF 0 false 1 false) [.T 245], .o 247 (.fieldAddr 1) [.t 5], .n (.storeF 2 1) [.T 247,.T 246]] none []) [] .skip)) (.seq (.seq (.region [
 .o 248 (.fieldAddr 0) [.t 3], .o 249 (.loadF 0 false 1 false) [.T 248], .o 250 (.bin .eql) [.T 249,.const (.int .i64 5)], .o 251 .move [.T 250],
 .z 252 (.fieldAddr 0) [.t 3] 251, .z 253 (.loadF 0 false 1 false) [.T 252] 251, .z 254 (.bin .eql) [.T 253,.const (.int .i64 6)] 251,
 .o 255 .pick [.T 251,.const (.bool true),.T 254]] none [252,253]) (.cond (.T 255) [] (.region [ .o 256 .move [.t 0], .o 257 (.fieldAddr 5) [.t 3],
 .o 258 (.loadF 0 false 1 false) [.T 257], .o 259 (.call 71) [.T 256,.T 258], .o 260 (.fieldAddr 5) [.t 5], .n (.storeF 2 1) [.T 260,.T 259]] none []) []
 .skip)) (.seq (.seq (.region [ .o 261 (.fieldAddr 0) [.t 3], .o 262 (.loadF 0 false 1 false) [.T 261],
 .o 263 (.bin .eql) [.T 262,.const (.int .i64 5)]] none []) (.cond (.T 263) [] (.region [ .o 264 .move [.T 0], .o 265 (.fieldAddr 6) [.T 3],
 .o 266 (.loadF 0 false 1 false) [.T 265], .o 267 (.call 71) [.T 264,.T 266], .o 268 (.fieldAddr 6) [.t 5], .n (.storeF 2 1) [.T 268,.T 267]] none []) [0,3]
 .skip)) (.seq (.region [ .o 269 (.loadF 2 true 9 false) [.T 5], .n (.storeF 1 9) [.t 4,.T 269]] none []) .ret))))))))))))))))) }

/-- (*runrig/runrigref7.surer).asks -/
def s103_l0 : SCode :=
 (.seq (.seq (.region [ .o 5 .move [.t 4], .o 6 (.fieldAddr 5) [.t 3], .o 7 (.loadF 0 false 1 false) [.T 6], .o 8 (.len .sl) [.T 7],
 .o 9 (.bin .lss) [.T 5,.T 8]] none []) (.cond (.T 9) [] .skip [4] (.exit 0))) (.seq (.block 1 (.region [ .o 12 .move [.t 0], .o 13 (.fieldAddr 5) [.t 3],
 .o 14 (.loadF 0 false 1 false) [.T 13], .o 15 .move [.t 4], .o 16 (.indexAddr 11) [.T 14,.T 15], .o 17 (.load true 11 false) [.T 16],
 .o 18 (.call 103) [.T 12,.T 17]] none [18])) (.region [ .o 10 .move [.T 4], .o 11 (.bin .add) [.T 10,.const (.int .i64 1)], .o 4 .move [.T 11]] none [])))
def s103 : SFunc := { fid := 103,mode := .scp,nparams := 2,nboxes := 1,clr := [],results := [],body :=
 (.seq (.region [ .o 3 (.boxF 0 11) [.T 1]] none []) (.seq (.seq (.region [ .o 4 .move [.const (.int .i64 0)]] none []) (.block 0 (.loop s103_l0))) (.seq
 (.region [ .o 19 (.fieldAddr 0) [.t 3], .o 20 (.loadF 0 false 1 false) [.T 19], .o 21 (.bin .eql) [.T 20,.const (.int .i64 4)], .o 22 .move [.T 21],
 .y 23 (.fieldAddr 10) [.t 3] 22, .y 24 (.loadF 0 false 1 false) [.T 23] 22, .y 25 (.bin .geq) [.T 24,.const (.int .i64 0)] 22,
 .o 26 .pick [.t 22,.T 25,.const (.bool false)], .o 27 .move [.T 26], .y 28 .move [.t 0] 27, .y 29 .nilCheck [.T 28] 27, .y 30 (.fieldAddr 0) [.T 29] 27,
 .y 31 (.load false 1 false) [.T 30] 27, .y 32 (.fieldAddr 10) [.t 3] 27, .y 33 (.loadF 0 false 1 false) [.T 32] 27, .y 34 (.indexAddr 1) [.T 31,.T 33] 27,
 .y 35 (.load false 1 false) [.T 34] 27, .y 36 (.un .not) [.T 35] 27, .o 37 .pick [.t 27,.T 36,.const (.bool false)], .o 38 .move [.T 37],
 .y 39 .move [.t 0] 38, .y 40 .nilCheck [.T 39] 38, .y 41 (.fieldAddr 1) [.T 40] 38, .y 42 (.fieldAddr 0) [.T 41] 38, .y 43 (.load false 1 false) [.T 42] 38,
 .y 44 (.bin .eql) [.T 43,.const (.int .i64 0)] 38,
 .o 45 .pick [.t 38,.T 44,.const (.bool false)]] (some []) [22,23,24,27,28,29,30,31,32,33,34,35,38,39,40,41,42,43]) (.cond (.T 45) [] (.region [
 .o 46 .move [.T 0], .o 47 (.fieldAddr 6) [.T 3], .o 48 (.loadF 0 false 1 false) [.T 47], .o 49 (.call 99) [.T 48], .o 50 .nilCheck [.T 46],
 .o 51 (.fieldAddr 1) [.T 50], .n (.store 2) [.T 51,.T 49]] none []) [0,3] .skip)))) }

/-- (*runrig/runrigref7.surer).all -/
def s104_l0 : SCode :=
 (.seq (.seq (.region [ .o 3 .move [.t 2], .o 4 .move [.t 0], .o 5 .nilCheck [.T 4], .o 6 (.fieldAddr 0) [.T 5], .o 7 (.load false 1 false) [.T 6],
 .o 8 (.len .sl) [.T 7], .o 9 (.bin .lss) [.T 3,.T 8]] none []) (.cond (.T 9) [] .skip [0,2] (.exit 0))) (.seq (.block 1 (.region [ .o 12 .move [.t 0],
 .o 13 .nilCheck [.T 12], .o 14 (.fieldAddr 0) [.T 13], .o 15 (.load false 1 false) [.T 14], .o 16 .move [.t 2], .o 17 (.indexAddr 1) [.T 15,.T 16],
 .n (.store 1) [.T 17,.const (.bool true)]] none [])) (.region [ .o 10 .move [.T 2], .o 11 (.bin .add) [.T 10,.const (.int .i64 1)],
 .o 2 .move [.T 11]] none [])))
def s104 : SFunc := { fid := 104,mode := .scp,nparams := 1,nboxes := 0,clr := [],results := [],body :=
 (.seq (.region [ .o 2 .move [.const (.int .i64 0)]] none []) (.block 0 (.loop s104_l0))) }

/-- (*runrig/runrigref13.maker).expr -/

def s105 : SFunc := { fid := 105,mode := .scp,nparams := 2,nboxes := 1,clr := [],results := [.tmp 4 false],body :=
 (.seq (.region [ .o 3 (.boxF 0 11) [.T 1], .o 4 .move [.const (.int .i64 0)]] none [4]) (.seq (.seq (.region [ .o 7 (.fieldAddr 0) [.t 3],
 .o 8 (.loadF 0 false 1 false) [.T 7], .o 9 (.bin .eql) [.T 8,.const (.int .i64 4)], .o 10 .move [.T 9], .y 11 (.fieldAddr 10) [.t 3] 10,
 .y 12 (.loadF 0 false 1 false) [.T 11] 10, .y 13 (.bin .geq) [.T 12,.const (.int .i64 0)] 10, .o 14 .pick [.T 10,.T 13,.const (.bool false)]] none [11,12])
 (.cond (.T 14) [0] (.seq (.region [ .o 15 (.fieldAddr 10) [.T 3], .o 16 (.loadF 0 false 1 false) [.T 15], .o 4 .move [.T 16]] none []) .ret) [] .skip)) (.seq
 (.region [ .o 17 .move [.t 0], .o 18 (.fieldAddr 5) [.t 3], .o 19 (.loadF 0 false 1 false) [.T 18], .o 20 (.call 106) [.T 17,.T 19],
 .o 5 .move [.T 20]] none []) (.seq (.seq (.region [ .o 21 (.fieldAddr 7) [.t 3], .o 22 (.loadF 0 true 3 false) [.T 21],
 .o 23 (.build [.int .i64 0,.int .i64 0,.int .i64 0] []) [], .o 24 (.eqv (.flat [.int,.int,.int]) false) [.T 22,.T 23]] none []) (.cond (.T 24) [] (.seq
 (.region [ .o 25 .move [.T 0], .o 26 (.fieldAddr 10) [.T 3], .o 27 (.loadF 0 false 1 false) [.T 26], .o 28 .move [.T 5],
 .o 29 (.build [.int .i64 0,.int .i64 0,.int .i64 0,.int .i64 0,.int .i64 0,.nilSl] [(0,1),(1,1),(3,1),(5,1)]) [.const (.int .i64 13),.const (.int .i64 (-1)),.T 27,.T 28],
 .o 30 (.call 75) [.T 25,.T 29]] none [30]) (.seq (.region [ .o 4 .move [.const (.int .i64 (-1))]] none []) .ret)) [] .skip)) (.seq (.region [
 .o 31 .move [.t 0], .o 32 (.fieldAddr 7) [.t 3], .o 33 (.loadF 0 true 3 false) [.T 32], .o 34 (.call 43) [.T 31,.T 33], .o 6 .move [.T 34]] none []) (.seq
 (.seq (.region [ .o 35 (.fieldAddr 0) [.t 3], .o 36 (.loadF 0 false 1 false) [.T 35]] none []) (.block 0 (.seq (.seq (.region [
 .o 50 (.bin .eql) [.t 36,.const (.int .i64 1)], .o 49 .move [.T 50]] none []) (.cond (.t 49) [] .skip [49] (.region [
 .o 51 (.bin .eql) [.t 36,.const (.int .i64 2)], .o 49 .move [.T 51]] none []))) (.cond (.T 49) [5,36] (.region [ .o 52 .move [.T 0], .o 53 .move [.t 6],
 .o 54 (.fieldAddr 1) [.T 3], .o 55 (.loadF 0 false 1 false) [.T 54],
 .o 56 (.build [.int .i64 0,.int .i64 0,.int .i64 0,.int .i64 0,.int .i64 0,.nilSl] [(0,1),(1,1),(4,1)]) [.const (.int .i64 1),.T 53,.T 55],
 .o 57 (.call 75) [.T 52,.T 56]] none [57]) [] (.seq (.region [ .o 59 (.bin .eql) [.t 36,.const (.int .i64 3)], .o 58 .move [.T 59]] none [])
 (.cond (.T 58) [3,5,36] (.region [ .o 60 .move [.T 0], .o 61 .move [.t 6],
 .o 62 (.build [.int .i64 0,.int .i64 0,.int .i64 0,.int .i64 0,.int .i64 0,.nilSl] [(0,1),(1,1)]) [.const (.int .i64 2),.T 61],
 .o 63 (.call 75) [.T 60,.T 62]] none [63]) [] (.seq (.region [ .o 65 (.bin .eql) [.t 36,.const (.int .i64 4)], .o 64 .move [.T 65]] none [])
 (.cond (.T 64) [5,36] (.region [ .o 66 .move [.T 0], .o 67 .move [.t 6], .o 68 (.fieldAddr 10) [.T 3], .o 69 (.loadF 0 false 1 false) [.T 68],
 .o 70 (.bin .sub) [.const (.int .i64 (-1)),.T 69],
 .o 71 (.build [.int .i64 0,.int .i64 0,.int .i64 0,.int .i64 0,.int .i64 0,.nilSl] [(0,1),(1,1),(4,1)]) [.const (.int .i64 19),.T 67,.T 70],
 .o 72 (.call 75) [.T 66,.T 71]] none [72]) [] (.seq (.region [ .o 74 (.bin .eql) [.t 36,.const (.int .i64 5)], .o 73 .move [.T 74]] none [])
 (.cond (.T 73) [36] (.region [ .o 75 .move [.T 0], .o 76 .move [.t 6], .o 77 .move [.T 5], .o 78 (.indexAddr 1) [.T 77,.const (.int .i64 0)],
 .o 79 (.load false 1 false) [.T 78], .o 80 (.fieldAddr 10) [.T 3], .o 81 (.loadF 0 false 1 false) [.T 80],
 .o 82 (.build [.int .i64 0,.int .i64 0,.int .i64 0,.int .i64 0,.int .i64 0,.nilSl] [(0,1),(1,1),(2,1),(3,1)]) [.const (.int .i64 6),.T 76,.T 79,.T 81],
 .o 83 (.call 75) [.T 75,.T 82]] (some []) [83]) [] (.seq (.region [ .o 85 (.bin .eql) [.t 36,.const (.int .i64 6)], .o 84 .move [.T 85]] none [])
 (.cond (.T 84) [3,36] (.region [ .o 86 .move [.T 0], .o 87 .move [.t 6], .o 88 .move [.t 5], .o 89 (.indexAddr 1) [.T 88,.const (.int .i64 0)],
 .o 90 (.load false 1 false) [.T 89], .o 91 .move [.t 5], .o 92 (.indexAddr 1) [.T 91,.const (.int .i64 1)], .o 93 (.load false 1 false) [.T 92],
 .o 94 (.build [.int .i64 0,.int .i64 0,.int .i64 0,.int .i64 0,.int .i64 0,.nilSl] [(0,1),(1,1),(2,1),(3,1)]) [.const (.int .i64 8),.T 87,.T 90,.T 93],
 .o 95 (.call 75) [.T 86,.T 94]] (some []) [5,95]) [] (.seq (.region [ .o 97 (.bin .eql) [.t 36,.const (.int .i64 7)], .o 96 .move [.T 97]] none [])
 (.cond (.T 96) [36] (.region [ .o 98 .move [.T 0], .o 99 .move [.t 6], .o 100 (.fieldAddr 10) [.T 3], .o 101 (.loadF 0 false 1 false) [.T 100],
 .o 102 .move [.T 5],
 .o 103 (.build [.int .i64 0,.int .i64 0,.int .i64 0,.int .i64 0,.int .i64 0,.nilSl] [(0,1),(1,1),(3,1),(5,1)]) [.const (.int .i64 13),.T 99,.T 101,.T 102],
 .o 104 (.call 75) [.T 98,.T 103]] none [104]) [] (.seq (.region [ .o 106 (.bin .eql) [.t 36,.const (.int .i64 8)], .o 105 .move [.T 106]] none [])
 (.cond (.T 105) [5,36] (.region [ .o 107 .move [.t 0], .o 108 .move [.t 6], .o 109 .move [.T 0], .o 110 (.fieldAddr 7) [.T 3],
 .o 111 (.loadF 0 true 3 false) [.T 110], .o 112 (.call 119) [.T 109,.T 111],
 .o 113 (.build [.int .i64 0,.int .i64 0,.int .i64 0,.int .i64 0,.int .i64 0,.nilSl] [(0,1),(1,1),(4,1)]) [.const (.int .i64 11),.T 108,.T 112],
 .o 114 (.call 75) [.T 107,.T 113]] none [114]) [] (.seq (.region [ .o 116 (.bin .eql) [.t 36,.const (.int .i64 9)], .o 115 .move [.T 116]] none [])
 (.cond (.T 115) [36] (.region [ .o 117 .move [.t 0], .o 118 .move [.t 6], .o 119 .move [.T 5], .o 120 (.indexAddr 1) [.T 119,.const (.int .i64 0)],
 .o 121 (.load false 1 false) [.T 120], .o 122 .move [.t 0], .o 123 (.fieldAddr 7) [.T 3], .o 124 (.loadF 0 true 3 false) [.T 123],
 .o 125 (.call 119) [.T 122,.T 124],
 .o 126 (.build [.int .i64 0,.int .i64 0,.int .i64 0,.int .i64 0,.int .i64 0,.nilSl] [(0,1),(1,1),(2,1),(4,1)]) [.const (.int .i64 12),.T 118,.T 121,.T 125],
 .o 127 (.call 75) [.T 117,.T 126]] (some [(3,8),(4,8)]) [0,127]) [] (.seq (.region [ .o 129 (.bin .eql) [.t 36,.const (.int .i64 10)],
 .o 128 .move [.T 129]] none []) (.cond (.T 128) [3,36] (.region [ .o 130 .move [.T 0], .o 131 .move [.t 6], .o 132 .move [.T 5],
 .o 133 (.indexAddr 1) [.T 132,.const (.int .i64 0)], .o 134 (.load false 1 false) [.T 133],
 .o 135 (.build [.int .i64 0,.int .i64 0,.int .i64 0,.int .i64 0,.int .i64 0,.nilSl] [(0,1),(1,1),(2,1)]) [.const (.int .i64 10),.T 131,.T 134],
 .o 136 (.call 75) [.T 130,.T 135]] none [136]) [] (.seq (.region [ .o 138 (.bin .eql) [.t 36,.const (.int .i64 11)], .o 137 .move [.T 138]] none [])
 (.cond (.T 137) [3,5,36] (.region [ .o 139 .move [.T 0], .o 140 .move [.t 6],
 .o 141 (.build [.int .i64 0,.int .i64 0,.int .i64 0,.int .i64 0,.int .i64 0,.nilSl] [(0,1),(1,1)]) [.const (.int .i64 14),.T 140],
 .o 142 (.call 75) [.T 139,.T 141]] none [142]) [] (.seq (.seq (.region [ .o 144 (.bin .eql) [.t 36,.const (.int .i64 12)], .o 143 .move [.T 144]] none [])
 (.cond (.t 143) [36] .skip [143] (.region [ .o 145 (.bin .eql) [.T 36,.const (.int .i64 13)], .o 143 .move [.T 145]] none []))) (.cond (.T 143) [] (.region [
 .o 146 .move [.T 0], .o 147 .move [.t 6], .o 148 .move [.T 5], .o 149 (.indexAddr 1) [.T 148,.const (.int .i64 0)], .o 150 (.load false 1 false) [.T 149],
 .o 151 (.fieldAddr 0) [.T 3], .o 152 (.loadF 0 false 1 false) [.T 151],
 .o 153 (.build [.int .i64 0,.int .i64 0,.int .i64 0,.int .i64 0,.int .i64 0,.nilSl] [(0,1),(1,1),(2,1),(4,1)]) [.const (.int .i64 5),.T 147,.T 150,.T 152],
 .o 154 (.call 75) [.T 146,.T 153]] (some []) [154]) [] (.region [ .o 37 .move [.T 0], .o 38 .move [.t 6], .o 39 .move [.t 5],
 .o 40 (.indexAddr 1) [.T 39,.const (.int .i64 0)], .o 41 (.load false 1 false) [.T 40], .o 42 .move [.t 5], .o 43 (.indexAddr 1) [.T 42,.const (.int .i64 1)],
 .o 44 (.load false 1 false) [.T 43], .o 45 (.fieldAddr 0) [.T 3], .o 46 (.loadF 0 false 1 false) [.T 45],
 .o 47 (.build [.int .i64 0,.int .i64 0,.int .i64 0,.int .i64 0,.int .i64 0,.nilSl] [(0,1),(1,1),(2,1),(3,1),(4,1)]) [.const (.int .i64 4),.T 38,.T 41,.T 44,.T 46],
 .o 48 (.call 75) [.T 37,.T 47]] (some []) [5,48]))))))))))))))))))))))))) (.seq (.region [ .o 155 .move [.T 6], .o 4 .move [.T 155]] none []) .ret))))))) }

/-- (*runrig/runrigref13.maker).kids -/
def s106_l0 : SCode :=
 (.seq (.seq (.region [ .o 7 .move [.t 6], .o 8 .move [.t 1], .o 9 (.len .sl) [.T 8], .o 10 (.bin .lss) [.T 7,.T 9]] none []) (.cond (.T 10) [] .skip [0,1,6]
 (.exit 0))) (.seq (.block 1 (.region [ .o 13 .move [.T 5], .o 14 .move [.t 0], .o 15 .move [.t 1], .o 16 .move [.t 6], .o 17 (.indexAddr 11) [.T 15,.T 16],
 .o 18 (.load true 11 false) [.T 17], .o 19 (.call 105) [.T 14,.T 18], .o 20 (.lit 1 1 [.int .i64 0] [0]) [.T 19], .o 21 (.append 1 8) [.T 13,.T 20],
 .o 5 .move [.T 21]] none [])) (.region [ .o 11 .move [.T 6], .o 12 (.bin .add) [.T 11,.const (.int .i64 1)], .o 6 .move [.T 12]] none [])))
def s106 : SFunc := { fid := 106,mode := .scp,nparams := 2,nboxes := 0,clr := [],results := [.tmp 4 true],body :=
 (.seq (.region [ .o 4 .move [.const .nilSl]] none [4]) (.seq (.region [ .o 5 .move [.const .nilSl]] none []) (.seq (.seq (.region [
 .o 6 .move [.const (.int .i64 0)]] none []) (.block 0 (.loop s106_l0))) (.seq (.region [ .o 22 .move [.T 5], .o 4 .move [.T 22]] none []) .ret)))) }

/-- runrig/ir.none -/

def s107 : SFunc := { fid := 107,mode := .pure,nparams := 0,nboxes := 1,clr := [],results := [.box 0 0 3 true],body :=
 (.seq (.region [ .o 0 (.allocF 0 [.int .i64 0,.int .i64 0,.int .i64 0]) []] none []) (.seq (.region [
 .o 1 (.build [.int .i64 0,.int .i64 0,.int .i64 0] []) [], .n (.storeF 0 3) [.t 0,.T 1]] none []) .ret)) }

/-- runrig/ir.Step -/

def s108 : SFunc := { fid := 108,mode := .pure,nparams := 3,nboxes := 2,clr := [],results := [.tmp 6 false],body :=
 (.seq (.region [ .o 3 (.boxF 0 5) [.T 0], .o 5 (.boxF 1 6) [.T 2], .o 6 .move [.const (.bool false)]] none [6]) (.seq (.region [ .o 7 .move [.t 1],
 .o 8 (.bin .geq) [.T 7,.const (.int .i64 0)], .o 9 .move [.T 8], .y 10 .move [.t 1] 9, .y 11 (.fieldAddr 2) [.t 3] 9,
 .y 12 (.loadF 0 false 1 false) [.T 11] 9, .y 13 (.len .sl) [.T 12] 9, .y 14 (.bin .lss) [.T 10,.T 13] 9, .o 15 .pick [.t 9,.T 14,.const (.bool false)],
 .o 16 .move [.T 15], .y 17 (.loadF 1 true 6 false) [.t 5] 16, .y 18 (.call 120) [.T 17] 16, .o 19 .pick [.t 16,.T 18,.const (.bool false)],
 .o 20 .move [.T 19], .y 21 (.loadF 0 true 5 false) [.t 3] 20, .y 22 .move [.t 1] 20, .y 23 (.fieldAddr 2) [.t 3] 20,
 .y 24 (.loadF 0 false 1 false) [.T 23] 20, .y 25 .move [.t 1] 20, .y 26 (.indexAddr 7) [.T 24,.T 25] 20, .y 27 (.load true 7 false) [.T 26] 20,
 .y 28 (.loadF 1 true 6 false) [.t 5] 20,
 .y 29 (.build [.nilSl,.nilSl,.nilSl,.nilSl,.int .i64 0,.int .i64 0,.int .i64 0,.nilSl,.bool false,.int .i64 0,.int .i64 0,.int .i64 0,.nilSl,.int .i64 0,.int .i64 0,.int .i64 0,.int .i64 0,.int .i64 0,.nilSl] [(0,5),(5,1),(6,7),(13,6)]) [.T 21,.T 22,.T 27,.T 28] 20,
 .y 30 (.call 121) [.T 29] 20, .o 31 .pick [.t 20,.T 30,.const (.bool false)],
 .o 6 .move [.T 31]] (some []) [1,3,5,9,10,11,12,13,16,17,20,21,22,23,24,25,26,27,28,29]) .ret)) }

/-- runrig/runrigref2.words -/

def s109 : SFunc := { fid := 109,mode := .pure,nparams := 0,nboxes := 0,clr := [],results := [.tmp 0 true],body :=
 (.seq (.region [ .o 0 .move [.const .nilSl]] none [0]) (.seq (.region [
 .o 1 (.lit 1 18 [.str []] [0,1,2,3,4,5,6,7,8,9,10,11,12,13,14,15,16,17]) [.const (.str [114,101,99,111,114,100]),.const (.str [103,108,111,98,97,108]),.const (.str [102,117,110,99]),.const (.str [118,97,114]),.const (.str [108,101,116]),.const (.str [105,102]),.const (.str [101,108,115,101]),.const (.str [119,104,105,108,101]),.const (.str [114,101,116,117,114,110]),.const (.str [112,114,105,110,116]),.const (.str [110,117,108,108]),.const (.str [110,101,119]),.const (.str [108,101,110]),.const (.str [114,101,97,100]),.const (.str [116,114,117,101]),.const (.str [102,97,108,115,101]),.const (.str [105,110,116]),.const (.str [98,111,111,108])],
 .o 0 .move [.T 1]] none []) .ret)) }

/-- (*runrig/runrigref3.reader).expr -/
def s110_l0 : SCode :=
 (.seq (.seq (.region [ .o 16 .move [.t 0], .o 17 (.call 32) [.T 16], .o 18 .move [.T 17], .y 19 .move [.t 1] 18, .y 20 .move [.t 0] 18,
 .y 21 (.call 33) [.T 20] 18, .y 22 (.call 123) [.T 19,.T 21] 18, .y 23 (.bin .neq) [.T 22,.const (.int .i64 0)] 18,
 .o 24 .pick [.T 18,.T 23,.const (.bool false)]] none [19,20,21,22]) (.cond (.T 24) [] .skip [0,1] (.exit 0))) (.block 1 (.seq (.region [ .o 25 .move [.t 0],
 .o 26 (.call 33) [.T 25], .o 6 (.allocF 2 [.int .i64 0,.str [],.int .i64 0,.int .i64 0]) [], .n (.storeF 2 4) [.t 6,.T 26]] none []) (.seq (.region [
 .o 27 .move [.t 0], .o 28 .nilCheck [.t 27], .o 29 (.fieldAddr 1) [.T 28], .o 30 (.load false 1 false) [.T 29],
 .o 31 (.bin .add) [.T 30,.const (.int .i64 1)], .o 32 .nilCheck [.T 27], .o 33 (.fieldAddr 1) [.T 32], .n (.store 1) [.T 33,.T 31]] none []) (.seq (.region [
 .o 34 .move [.t 0], .o 35 .move [.t 1], .o 36 (.bin .add) [.T 35,.const (.int .i64 1)], .o 37 (.call 110) [.T 34,.T 36],
 .o 7 (.allocF 3 [.int .i64 0,.int .i64 0,.str [],.str [],.int .i64 0,.nilSl,.int .i64 0,.int .i64 0,.int .i64 0,.int .i64 0,.int .i64 0]) [],
 .n (.storeF 3 11) [.t 7,.T 37]] none []) (.region [ .o 38 .move [.t 1], .o 39 (.loadF 2 true 4 false) [.t 6], .o 40 (.call 123) [.T 38,.T 39],
 .o 41 (.loadF 1 true 11 false) [.t 5], .o 42 (.loadF 3 true 11 false) [.T 7],
 .o 43 (.lit 11 2 [.int .i64 0,.int .i64 0,.str [],.str [],.int .i64 0,.nilSl,.int .i64 0,.int .i64 0,.int .i64 0,.int .i64 0,.int .i64 0] [0,1]) [.T 41,.T 42],
 .o 44 (.fieldAddr 3) [.t 6], .o 45 (.loadF 2 false 1 false) [.T 44],
 .o 46 (.build [.int .i64 0,.int .i64 0,.str [],.str [],.int .i64 0,.nilSl,.int .i64 0,.int .i64 0,.int .i64 0,.int .i64 0,.int .i64 0] [(0,1),(5,1),(6,1)]) [.T 40,.T 43,.T 45],
 .n (.storeF 1 11) [.t 5,.T 46]] (some []) [6]))))))
def s110 : SFunc := { fid := 110,mode := .scp,nparams := 2,nboxes := 4,clr := [],results := [.box 4 0 11 true],body :=
 (.seq (.region [
 .o 4 (.allocF 0 [.int .i64 0,.int .i64 0,.str [],.str [],.int .i64 0,.nilSl,.int .i64 0,.int .i64 0,.int .i64 0,.int .i64 0,.int .i64 0]) []] none []) (.seq
 (.seq (.region [ .o 8 .move [.t 1], .o 9 (.bin .eql) [.T 8,.const (.int .i64 5)]] none []) (.cond (.T 9) [1] (.seq (.region [ .o 10 .move [.T 0],
 .o 11 (.call 122) [.T 10], .n (.storeF 0 11) [.t 4,.T 11]] none []) .ret) [] .skip)) (.seq (.region [ .o 12 .move [.t 0], .o 13 .move [.t 1],
 .o 14 (.bin .add) [.T 13,.const (.int .i64 1)], .o 15 (.call 110) [.T 12,.T 14],
 .o 5 (.allocF 1 [.int .i64 0,.int .i64 0,.str [],.str [],.int .i64 0,.nilSl,.int .i64 0,.int .i64 0,.int .i64 0,.int .i64 0,.int .i64 0]) [],
 .n (.storeF 1 11) [.t 5,.T 15]] none []) (.seq (.block 0 (.loop s110_l0)) (.seq (.region [ .o 47 (.loadF 1 true 11 false) [.T 5],
 .n (.storeF 0 11) [.t 4,.T 47]] none []) .ret))))) }

/-- (*runrig/runrigref3.reader).plain -/

def s111 : SFunc := { fid := 111,mode := .scp,nparams := 2,nboxes := 4,clr := [],results := [.box 4 1 9 true],body :=
 (.seq (.region [ .o 3 (.boxF 0 9) [.T 1], .o 4 (.allocF 1 [.int .i64 0,.str [],.str [],.int .i64 0,.nilSl,.nilSl,.nilSl,.int .i64 0,.int .i64 0]) []] none [])
 (.seq (.region [ .o 7 .move [.t 0], .o 8 (.call 110) [.T 7,.const (.int .i64 0)],
 .o 5 (.allocF 2 [.int .i64 0,.int .i64 0,.str [],.str [],.int .i64 0,.nilSl,.int .i64 0,.int .i64 0,.int .i64 0,.int .i64 0,.int .i64 0]) [],
 .n (.storeF 2 11) [.t 5,.T 8]] none []) (.seq (.seq (.region [ .o 9 .move [.t 0], .o 10 (.call 34) [.T 9,.const (.str [61])],
 .o 11 (.un .not) [.T 10]] none []) (.cond (.T 11) [] (.seq (.region [ .o 12 (.fieldAddr 0) [.t 3], .n (.storeF 0 1) [.T 12,.const (.int .i64 9)]] none [])
 (.seq (.region [ .o 13 (.loadF 2 true 11 false) [.t 5],
 .o 14 (.lit 11 1 [.int .i64 0,.int .i64 0,.str [],.str [],.int .i64 0,.nilSl,.int .i64 0,.int .i64 0,.int .i64 0,.int .i64 0,.int .i64 0] [0]) [.T 13],
 .o 15 (.fieldAddr 4) [.t 3], .n (.storeF 0 1) [.T 15,.T 14]] none []) (.seq (.seq (.region [ .o 16 .move [.t 0], .o 17 (.call 34) [.T 16,.const (.str [59])],
 .o 18 .move [.T 17], .y 19 (.fieldAddr 0) [.T 5] 18, .y 20 (.loadF 2 false 1 false) [.T 19] 18, .y 21 (.bin .neq) [.T 20,.const (.int .i64 7)] 18,
 .o 22 .pick [.T 18,.T 21,.const (.bool false)]] none [5,19,20]) (.cond (.T 22) [] (.region [ .o 23 .move [.t 0],
 .o 24 (.call 35) [.T 23,.const (.int .i64 2)]] none [24]) [] .skip)) (.seq (.region [ .o 25 .move [.T 0],
 .o 26 (.call 38) [.T 25,.const (.str [59])]] none [26]) (.seq (.region [ .o 27 (.loadF 0 true 9 false) [.T 3], .n (.storeF 1 9) [.t 4,.T 27]] none [])
 .ret))))) [] .skip)) (.seq (.seq (.region [ .o 28 (.fieldAddr 0) [.t 5], .o 29 (.loadF 2 false 1 false) [.T 28],
 .o 30 (.bin .neq) [.T 29,.const (.int .i64 4)], .o 31 .move [.T 30], .y 32 (.fieldAddr 0) [.t 5] 31, .y 33 (.loadF 2 false 1 false) [.T 32] 31,
 .y 34 (.bin .neq) [.T 33,.const (.int .i64 5)] 31, .o 35 .pick [.T 31,.T 34,.const (.bool false)], .o 36 .move [.T 35], .y 37 (.fieldAddr 0) [.t 5] 36,
 .y 38 (.loadF 2 false 1 false) [.T 37] 36, .y 39 (.bin .neq) [.T 38,.const (.int .i64 6)] 36,
 .o 40 .pick [.T 36,.T 39,.const (.bool false)]] none [32,33,37,38]) (.cond (.T 40) [] (.region [ .o 41 .move [.t 0],
 .o 42 (.call 35) [.T 41,.const (.int .i64 2)]] none [42]) [] .skip)) (.seq (.region [ .o 43 .move [.t 0],
 .o 44 (.call 38) [.T 43,.const (.str [61])]] none [44]) (.seq (.region [ .o 45 .move [.t 0], .o 46 (.call 110) [.T 45,.const (.int .i64 0)],
 .o 6 (.allocF 3 [.int .i64 0,.int .i64 0,.str [],.str [],.int .i64 0,.nilSl,.int .i64 0,.int .i64 0,.int .i64 0,.int .i64 0,.int .i64 0]) [],
 .n (.storeF 3 11) [.t 6,.T 46]] none []) (.seq (.region [ .o 47 .move [.T 0], .o 48 (.call 38) [.T 47,.const (.str [59])]] none [48]) (.seq (.seq (.region [
 .o 49 (.fieldAddr 0) [.t 5], .o 50 (.loadF 2 false 1 false) [.T 49], .o 51 (.bin .eql) [.T 50,.const (.int .i64 4)]] none []) (.cond (.T 51) [] (.seq
 (.region [ .o 52 (.fieldAddr 0) [.t 3], .n (.storeF 0 1) [.T 52,.const (.int .i64 3)]] none []) (.seq (.region [ .o 53 (.fieldAddr 2) [.T 5],
 .o 54 (.loadF 2 false 1 false) [.T 53], .o 55 (.fieldAddr 1) [.t 3], .n (.storeF 0 1) [.T 55,.T 54]] none []) (.seq (.region [
 .o 56 (.loadF 3 true 11 false) [.T 6],
 .o 57 (.lit 11 1 [.int .i64 0,.int .i64 0,.str [],.str [],.int .i64 0,.nilSl,.int .i64 0,.int .i64 0,.int .i64 0,.int .i64 0,.int .i64 0] [0]) [.T 56],
 .o 58 (.fieldAddr 4) [.t 3], .n (.storeF 0 1) [.T 58,.T 57]] none []) (.seq (.region [ .o 59 (.loadF 0 true 9 false) [.T 3],
 .n (.storeF 1 9) [.t 4,.T 59]] none []) .ret)))) [] .skip)) (.seq (.region [ .o 60 (.fieldAddr 0) [.t 3],
 .n (.storeF 0 1) [.T 60,.const (.int .i64 4)]] none []) (.seq (.region [ .o 61 (.loadF 2 true 11 false) [.T 5], .o 62 (.loadF 3 true 11 false) [.T 6],
 .o 63 (.lit 11 2 [.int .i64 0,.int .i64 0,.str [],.str [],.int .i64 0,.nilSl,.int .i64 0,.int .i64 0,.int .i64 0,.int .i64 0,.int .i64 0] [0,1]) [.T 61,.T 62],
 .o 64 (.fieldAddr 4) [.t 3], .n (.storeF 0 1) [.T 64,.T 63]] none []) (.seq (.region [ .o 65 (.loadF 0 true 9 false) [.T 3],
 .n (.storeF 1 9) [.t 4,.T 65]] none []) .ret))))))))))) }

/-- (*runrig/runrigref7.checker).formed -/

def s112 : SFunc := { fid := 112,mode := .scp,nparams := 2,nboxes := 1,clr := [],results := [.tmp 4 false],body :=
 (.seq (.region [ .o 3 (.boxF 0 9) [.T 1], .o 4 .move [.const (.bool false)]] none [4]) (.seq (.region [ .o 5 .move [.const (.int .i64 1)]] none []) (.seq
 (.seq (.region [ .o 6 (.fieldAddr 0) [.t 3], .o 7 (.loadF 0 false 1 false) [.T 6]] none []) (.block 0 (.seq (.region [
 .o 9 (.bin .eql) [.t 7,.const (.int .i64 1)], .o 8 .move [.T 9]] none []) (.cond (.T 8) [0,5,7] (.region [ .o 5 .move [.const (.int .i64 0)]] none []) []
 (.seq (.region [ .o 11 (.bin .eql) [.t 7,.const (.int .i64 4)], .o 10 .move [.T 11]] none []) (.cond (.T 10) [0,5,7] (.region [
 .o 5 .move [.const (.int .i64 2)]] none []) [] (.seq (.region [ .o 13 (.bin .eql) [.t 7,.const (.int .i64 7)], .o 12 .move [.T 13]] none [])
 (.cond (.T 12) [7] (.seq (.region [ .o 14 .move [.T 0], .o 15 .nilCheck [.T 14], .o 16 (.fieldAddr 5) [.T 15], .o 17 (.fieldAddr 2) [.T 16],
 .o 18 (.load false 1 false) [.T 17], .o 19 (.un .not) [.T 18]] none []) (.cond (.T 19) [5] (.region [ .o 5 .move [.const (.int .i64 0)]] none []) []
 .skip)) [0] (.seq (.seq (.region [ .o 21 (.bin .eql) [.t 7,.const (.int .i64 2)], .o 20 .move [.T 21]] none []) (.cond (.t 20) [7] .skip [20] (.seq (.region [
 .o 22 (.bin .eql) [.t 7,.const (.int .i64 3)], .o 20 .move [.T 22]] none []) (.cond (.t 20) [7] .skip [20] (.seq (.region [
 .o 23 (.bin .eql) [.t 7,.const (.int .i64 5)], .o 20 .move [.T 23]] none []) (.cond (.t 20) [7] .skip [20] (.seq (.region [
 .o 24 (.bin .eql) [.t 7,.const (.int .i64 6)], .o 20 .move [.T 24]] none []) (.cond (.t 20) [7] .skip [20] (.seq (.region [
 .o 25 (.bin .eql) [.t 7,.const (.int .i64 8)], .o 20 .move [.T 25]] none []) (.cond (.t 20) [7] .skip [20] (.region [
 .o 26 (.bin .eql) [.T 7,.const (.int .i64 9)], .o 20 .move [.T 26]] none []))))))))))) (.cond (.T 20) [] .skip [3,5] (.seq (.region [
 .o 4 .move [.const (.bool false)]] none []) .ret))))))))))) (.seq (.seq (.region [ .o 27 (.fieldAddr 4) [.t 3], .o 28 (.loadF 0 false 1 false) [.T 27],
 .o 29 (.len .sl) [.T 28], .o 30 .move [.T 5], .o 31 (.bin .neq) [.T 29,.T 30]] none []) (.cond (.T 31) [3] (.seq (.region [
 .o 4 .move [.const (.bool false)]] none []) .ret) [] .skip)) (.seq (.seq (.region [ .o 32 (.fieldAddr 0) [.t 3], .o 33 (.loadF 0 false 1 false) [.T 32],
 .o 34 (.bin .eql) [.T 33,.const (.int .i64 4)]] none []) (.cond (.T 34) [] (.seq (.region [ .o 35 (.fieldAddr 4) [.t 3],
 .o 36 (.loadF 0 false 1 false) [.T 35], .o 37 (.indexAddr 11) [.T 36,.const (.int .i64 0)], .o 38 (.fieldAddr 0) [.T 37], .o 39 (.load false 1 false) [.T 38],
 .o 40 (.bin .eql) [.T 39,.const (.int .i64 5)], .o 41 .move [.T 40], .z 42 (.fieldAddr 4) [.T 3] 41, .z 43 (.loadF 0 false 1 false) [.T 42] 41,
 .z 44 (.indexAddr 11) [.T 43,.const (.int .i64 0)] 41, .z 45 (.fieldAddr 0) [.T 44] 41, .z 46 (.load false 1 false) [.T 45] 41,
 .z 47 (.bin .eql) [.T 46,.const (.int .i64 6)] 41, .o 48 .pick [.T 41,.const (.bool true),.T 47], .o 4 .move [.T 48]] none [3,42,43,44,45,46]) .ret) []
 .skip)) (.seq (.region [ .o 49 (.fieldAddr 0) [.t 3], .o 50 (.loadF 0 false 1 false) [.T 49], .o 51 (.bin .neq) [.T 50,.const (.int .i64 9)],
 .o 52 .move [.T 51], .z 53 (.fieldAddr 4) [.T 3] 52, .z 54 (.loadF 0 false 1 false) [.T 53] 52, .z 55 (.indexAddr 11) [.T 54,.const (.int .i64 0)] 52,
 .z 56 (.fieldAddr 0) [.T 55] 52, .z 57 (.load false 1 false) [.T 56] 52, .z 58 (.bin .eql) [.T 57,.const (.int .i64 7)] 52,
 .o 59 .pick [.T 52,.const (.bool true),.T 58], .o 4 .move [.T 59]] none [3,53,54,55,56,57]) .ret)))))) }

/-- (*runrig/runrigref7.checker).fail -/

def s113 : SFunc := { fid := 113,mode := .scp,nparams := 2,nboxes := 0,clr := [],results := [],body :=
 (.seq (.region [ .o 4 .move [.t 0], .o 5 (.call 72) [.T 4]] none []) (.cond (.T 5) [] (.region [ .o 6 .move [.T 0], .o 7 .move [.T 1], .o 8 (.call 99) [.T 7],
 .o 9 .nilCheck [.T 6], .o 10 (.fieldAddr 12) [.T 9], .n (.store 2) [.T 10,.T 8]] none []) [0,1] .skip)) }

/-- (*runrig/runrigref7.checker).expr -/
def s114_l0 : SCode :=
 (.seq (.seq (.region [ .o 50 .move [.t 7], .o 51 (.fieldAddr 5) [.t 3], .o 52 (.loadF 0 false 1 false) [.T 51], .o 53 (.len .sl) [.T 52],
 .o 54 (.bin .lss) [.T 50,.T 53], .o 55 .move [.T 54], .y 56 .move [.t 0] 55, .y 57 (.call 72) [.T 56] 55,
 .o 58 .pick [.T 55,.T 57,.const (.bool false)]] none [56]) (.cond (.T 58) [] .skip [7] (.exit 0))) (.seq (.block 1 (.region [ .o 61 (.fieldAddr 5) [.t 6],
 .o 62 (.load false 1 false) [.T 61], .o 63 .move [.t 0], .o 64 (.fieldAddr 5) [.t 3], .o 65 (.loadF 0 false 1 false) [.T 64], .o 66 .move [.t 7],
 .o 67 (.indexAddr 11) [.T 65,.T 66], .o 68 (.load true 11 false) [.T 67], .o 69 (.call 115) [.T 63,.T 68], .o 70 (.len .sl) [.t 62],
 ⟨some 71,.lit 11 1 [.int .i64 0,.int .i64 0,.str [],.str [],.int .i64 0,.nilSl,.int .i64 0,.int .i64 0,.int .i64 0,.int .i64 0,.int .i64 0] [0],[.const (.agg [.int .i64 0,.int .i64 0,.str [],.str [],.int .i64 0,.nilSl,.int .i64 0,.int .i64 0,.int .i64 0,.int .i64 0,.int .i64 0])],none⟩,
 .o 72 (.appendM 11 120) [.t 62,.T 71], .o 73 (.indexAddr 11) [.t 72,.T 70], .n (.store 11) [.T 73,.T 69], .o 74 (.fieldAddr 5) [.t 6],
 .n (.store 1) [.T 74,.t 72]] (some [(1,8),(9,8),(12,15),(100013,15),(1400013,15)]) [62,72])) (.region [ .o 59 .move [.T 7],
 .o 60 (.bin .add) [.T 59,.const (.int .i64 1)], .o 7 .move [.T 60]] none [])))
def s114 : SFunc := { fid := 114,mode := .scp,nparams := 2,nboxes := 2,clr := [],results := [.box 4 1 11 true],body :=
 (.seq (.region [ .o 3 (.boxF 0 11) [.T 1],
 .o 4 (.allocF 1 [.int .i64 0,.int .i64 0,.str [],.str [],.int .i64 0,.nilSl,.int .i64 0,.int .i64 0,.int .i64 0,.int .i64 0,.int .i64 0]) []] none []) (.seq
 (.region [ .o 9 (.fieldAddr 0) [.t 3], .o 10 (.loadF 0 false 1 false) [.T 9], .o 11 (.call 124) [.T 10], .o 5 .move [.T 11]] none []) (.seq (.seq (.region [
 .o 12 .move [.t 5], .o 13 (.bin .eql) [.T 12,.const (.int .i64 (-2))], .o 14 .move [.T 13], .z 15 .move [.t 5] 14,
 .z 16 (.bin .geq) [.T 15,.const (.int .i64 0)] 14, .z 17 .move [.T 16] 14, .y 18 (.fieldAddr 5) [.t 3] 17, .y 19 (.loadF 0 false 1 false) [.T 18] 17,
 .y 20 (.len .sl) [.T 19] 17, .y 21 .move [.T 5] 17, .y 22 (.bin .neq) [.T 20,.T 21] 17, .z 23 .pick [.T 17,.T 22,.const (.bool false)] 14,
 .o 24 .pick [.T 14,.const (.bool true),.T 23], .o 25 .move [.T 24], .z 26 (.fieldAddr 0) [.t 3] 25, .z 27 (.loadF 0 false 1 false) [.T 26] 25,
 .z 28 (.bin .eql) [.T 27,.const (.int .i64 2)] 25, .z 29 .move [.T 28] 25, .y 30 (.fieldAddr 1) [.t 3] 29, .y 31 (.loadF 0 false 1 false) [.T 30] 29,
 .y 32 (.bin .neq) [.T 31,.const (.int .i64 0)] 29, .z 33 .pick [.T 29,.T 32,.const (.bool false)] 25, .z 34 .move [.T 33] 25, .y 35 (.fieldAddr 1) [.t 3] 34,
 .y 36 (.loadF 0 false 1 false) [.T 35] 34, .y 37 (.bin .neq) [.T 36,.const (.int .i64 1)] 34, .z 38 .pick [.T 34,.T 37,.const (.bool false)] 25,
 .o 39 .pick [.T 25,.const (.bool true),.T 38]] none [5,15,16,17,18,19,20,21,22,26,27,28,29,30,31,32,33,34,35,36,37]) (.cond (.T 39) [] (.seq (.region [
 .o 40 .move [.T 0], .o 41 (.fieldAddr 6) [.T 3], .o 42 (.loadF 0 false 1 false) [.T 41], .o 43 (.call 113) [.T 40,.T 42]] none [43]) (.seq (.region [
 .o 44 (.build [.int .i64 0,.int .i64 0,.str [],.str [],.int .i64 0,.nilSl,.int .i64 0,.int .i64 0,.int .i64 0,.int .i64 0,.int .i64 0] []) [],
 .n (.storeF 1 11) [.t 4,.T 44]] none []) .ret)) [] .skip)) (.seq (.region [ .o 45 (.fieldAddr 0) [.t 3], .o 46 (.loadF 0 false 1 false) [.T 45],
 .o 47 (.fieldAddr 6) [.t 3], .o 48 (.loadF 0 false 1 false) [.T 47],
 .o 49 (.build [.int .i64 0,.int .i64 0,.str [],.str [],.int .i64 0,.nilSl,.int .i64 0,.int .i64 0,.int .i64 0,.int .i64 0,.int .i64 0] [(0,1),(6,1)]) [.T 46,.T 48],
 .o 6 (.alloc [.int .i64 0,.int .i64 0,.str [],.str [],.int .i64 0,.nilSl,.int .i64 0,.int .i64 0,.int .i64 0,.int .i64 0,.int .i64 0]) [],
 .n (.store 11) [.t 6,.T 49]] none []) (.seq (.seq (.region [ .o 7 .move [.const (.int .i64 0)]] none []) (.block 0 (.loop s114_l0))) (.seq (.seq (.region [
 .o 75 .move [.t 0], .o 76 (.call 72) [.T 75], .o 77 (.un .not) [.T 76]] none []) (.cond (.T 77) [0,3,6] (.seq (.region [
 .o 78 (.build [.int .i64 0,.int .i64 0,.str [],.str [],.int .i64 0,.nilSl,.int .i64 0,.int .i64 0,.int .i64 0,.int .i64 0,.int .i64 0] []) [],
 .n (.storeF 1 11) [.t 4,.T 78]] none []) .ret) [] .skip)) (.seq (.region [ .o 8 .move [.const (.bool false)]] none [8]) (.seq (.seq (.region [
 .o 79 (.fieldAddr 0) [.t 3], .o 80 (.loadF 0 false 1 false) [.T 79], .o 81 (.bin .geq) [.T 80,.const (.int .i64 12)]] none []) (.cond (.T 81) [] (.region [
 .o 82 .move [.t 0], .o 83 (.call 125) [.T 82,.t 6], .o 8 .move [.T 83]] none []) [] (.region [ .o 84 .move [.t 0], .o 85 (.loadF 0 true 11 false) [.t 3],
 .o 86 (.call 126) [.T 84,.T 85,.t 6], .o 8 .move [.T 86]] none []))) (.seq (.seq (.region [ .o 87 .move [.T 8], .o 88 (.un .not) [.T 87]] none [])
 (.cond (.T 88) [6] (.seq (.region [ .o 89 .move [.T 0], .o 90 (.fieldAddr 6) [.T 3], .o 91 (.loadF 0 false 1 false) [.T 90],
 .o 92 (.call 113) [.T 89,.T 91]] none [92]) (.seq (.region [
 .o 93 (.build [.int .i64 0,.int .i64 0,.str [],.str [],.int .i64 0,.nilSl,.int .i64 0,.int .i64 0,.int .i64 0,.int .i64 0,.int .i64 0] []) [],
 .n (.storeF 1 11) [.t 4,.T 93]] none []) .ret)) [0,3] .skip)) (.seq (.seq (.frzH 6 5) (.region [ .o 94 (.load true 11 false) [.T 6],
 .n (.storeF 1 11) [.t 4,.T 94]] none [])) .ret)))))))))) }

/-- (*runrig/runrigref7.checker).valued -/

def s115 : SFunc := { fid := 115,mode := .scp,nparams := 2,nboxes := 3,clr := [],results := [.box 4 1 11 true],body :=
 (.seq (.region [ .o 3 (.boxF 0 11) [.T 1],
 .o 4 (.allocF 1 [.int .i64 0,.int .i64 0,.str [],.str [],.int .i64 0,.nilSl,.int .i64 0,.int .i64 0,.int .i64 0,.int .i64 0,.int .i64 0]) []] none []) (.seq
 (.region [ .o 6 .move [.t 0], .o 7 (.loadF 0 true 11 false) [.t 3], .o 8 (.call 114) [.T 6,.T 7],
 .o 5 (.allocF 2 [.int .i64 0,.int .i64 0,.str [],.str [],.int .i64 0,.nilSl,.int .i64 0,.int .i64 0,.int .i64 0,.int .i64 0,.int .i64 0]) [],
 .n (.storeF 2 11) [.t 5,.T 8]] none []) (.seq (.seq (.region [ .o 9 .move [.t 0], .o 10 (.call 72) [.T 9], .o 11 .move [.T 10],
 .y 12 (.fieldAddr 7) [.t 5] 11, .y 13 (.loadF 2 true 3 false) [.T 12] 11, .y 14 (.build [.int .i64 0,.int .i64 0,.int .i64 0] []) [] 11,
 .y 15 (.eqv (.flat [.int,.int,.int]) false) [.T 13,.T 14] 11, .o 16 .pick [.T 11,.T 15,.const (.bool false)]] none [12,13,14]) (.cond (.T 16) [] (.region [
 .o 17 .move [.T 0], .o 18 (.fieldAddr 6) [.T 3], .o 19 (.loadF 0 false 1 false) [.T 18], .o 20 (.call 113) [.T 17,.T 19]] none [20]) [0,3] .skip)) (.seq
 (.region [ .o 21 (.loadF 2 true 11 false) [.T 5], .n (.storeF 1 11) [.t 4,.T 21]] none []) .ret)))) }

/-- (*runrig/runrigref7.checker).variable -/
def s116_l0 : SCode :=
 (.seq (.seq (.region [ .o 9 .move [.t 7], .o 10 .move [.t 0], .o 11 .nilCheck [.T 10], .o 12 (.fieldAddr 11) [.T 11], .o 13 (.load false 1 false) [.T 12],
 .o 14 (.len .sl) [.T 13], .o 15 (.bin .lss) [.T 9,.T 14]] none []) (.cond (.T 15) [] .skip [7] (.exit 0))) (.seq (.block 1 (.seq (.region [
 .o 18 .move [.t 0], .o 19 .nilCheck [.T 18], .o 20 (.fieldAddr 11) [.T 19], .o 21 (.load false 1 false) [.T 20], .o 22 .move [.t 7],
 .o 23 (.indexAddr 4) [.T 21,.T 22], .o 24 (.fieldAddr 0) [.T 23], .o 25 (.load false 1 false) [.T 24], .o 26 .move [.t 1],
 .o 27 (.bin .eql) [.T 25,.T 26]] none []) (.cond (.T 27) [1] (.seq (.region [ .o 28 .move [.t 7], .o 29 .move [.T 0], .o 30 .nilCheck [.T 29],
 .o 31 (.fieldAddr 11) [.T 30], .o 32 (.load false 1 false) [.T 31], .o 33 .move [.t 7], .o 34 (.indexAddr 4) [.T 32,.T 33], .o 35 (.fieldAddr 1) [.T 34],
 .o 36 (.load true 3 false) [.T 35], .o 4 .move [.T 28], .n (.storeF 0 3) [.t 5,.T 36], .o 6 .move [.const (.bool true)]] (some []) [7]) .ret) [] .skip)))
 (.region [ .o 16 .move [.T 7], .o 17 (.bin .add) [.T 16,.const (.int .i64 1)], .o 7 .move [.T 17]] none [])))
def s116_l1 : SCode :=
 (.seq (.seq (.region [ .o 37 .move [.t 8], .o 38 .move [.t 0], .o 39 .nilCheck [.T 38], .o 40 (.fieldAddr 0) [.T 39], .o 41 (.fieldAddr 1) [.T 40],
 .o 42 (.load false 1 false) [.T 41], .o 43 (.len .sl) [.T 42], .o 44 (.bin .lss) [.T 37,.T 43]] none []) (.cond (.T 44) [] .skip [0,1,8] (.exit 2))) (.seq
 (.block 3 (.seq (.region [ .o 47 .move [.t 0], .o 48 .nilCheck [.T 47], .o 49 (.fieldAddr 0) [.T 48], .o 50 (.fieldAddr 1) [.T 49],
 .o 51 (.load false 1 false) [.T 50], .o 52 .move [.t 8], .o 53 (.indexAddr 4) [.T 51,.T 52], .o 54 (.fieldAddr 0) [.T 53],
 .o 55 (.load false 1 false) [.T 54], .o 56 .move [.t 1], .o 57 (.bin .eql) [.T 55,.T 56]] none []) (.cond (.T 57) [1] (.seq (.region [ .o 58 .move [.t 8],
 .o 59 (.bin .sub) [.const (.int .i64 (-1)),.T 58], .o 60 .move [.T 0], .o 61 .nilCheck [.T 60], .o 62 (.fieldAddr 0) [.T 61], .o 63 (.fieldAddr 1) [.T 62],
 .o 64 (.load false 1 false) [.T 63], .o 65 .move [.t 8], .o 66 (.indexAddr 4) [.T 64,.T 65], .o 67 (.fieldAddr 1) [.T 66], .o 68 (.load true 3 false) [.T 67],
 .o 4 .move [.T 59], .n (.storeF 0 3) [.t 5,.T 68], .o 6 .move [.const (.bool true)]] (some []) [8]) .ret) [] .skip))) (.region [ .o 45 .move [.T 8],
 .o 46 (.bin .add) [.T 45,.const (.int .i64 1)], .o 8 .move [.T 46]] none [])))
def s116 : SFunc := { fid := 116,mode := .scp,nparams := 2,nboxes := 1,clr := [],results := [.tmp 4 false,.box 5 0 3 true,.tmp 6 false],body :=
 (.seq (.region [ .o 4 .move [.const (.int .i64 0)], .o 5 (.allocF 0 [.int .i64 0,.int .i64 0,.int .i64 0]) [], .o 6 .move [.const (.bool false)]] none [4,6])
 (.seq (.seq (.region [ .o 7 .move [.const (.int .i64 0)]] none []) (.block 0 (.loop s116_l0))) (.seq (.seq (.region [
 .o 8 .move [.const (.int .i64 0)]] none []) (.block 2 (.loop s116_l1))) (.seq (.region [ .o 69 (.build [.int .i64 0,.int .i64 0,.int .i64 0] []) [],
 .o 4 .move [.const (.int .i64 0)], .n (.storeF 0 3) [.t 5,.T 69], .o 6 .move [.const (.bool false)]] none []) .ret)))) }

/-- runrig/runrigref7.tbool -/

def s117 : SFunc := { fid := 117,mode := .pure,nparams := 0,nboxes := 1,clr := [],results := [.box 0 0 3 true],body :=
 (.seq (.region [ .o 0 (.allocF 0 [.int .i64 0,.int .i64 0,.int .i64 0]) []] none []) (.seq (.region [
 .o 1 (.build [.int .i64 0,.int .i64 0,.int .i64 0] [(0,1)]) [.const (.int .i64 2)], .n (.storeF 0 3) [.t 0,.T 1]] none []) .ret)) }

/-- runrig/runrigref7.tint -/

def s118 : SFunc := { fid := 118,mode := .pure,nparams := 0,nboxes := 1,clr := [],results := [.box 0 0 3 true],body :=
 (.seq (.region [ .o 0 (.allocF 0 [.int .i64 0,.int .i64 0,.int .i64 0]) []] none []) (.seq (.region [
 .o 1 (.build [.int .i64 0,.int .i64 0,.int .i64 0] [(0,1)]) [.const (.int .i64 1)], .n (.storeF 0 3) [.t 0,.T 1]] none []) .ret)) }

/-- (*runrig/runrigref13.maker).site -/

def s119 : SFunc := { fid := 119,mode := .scp,nparams := 2,nboxes := 1,clr := [],results := [.tmp 4 false],body :=
 (.seq (.region [ .o 3 (.boxF 0 3) [.T 1], .o 4 .move [.const (.int .i64 0)]] none [4]) (.seq (.region [ .o 5 .move [.t 0], .o 6 .move [.t 0],
 .o 7 .nilCheck [.T 6], .o 8 (.fieldAddr 0) [.T 7], .o 9 (.fieldAddr 3) [.T 8], .o 10 (.load false 1 true) [.T 9], .o 11 .move [.t 0], .o 12 .nilCheck [.T 11],
 .o 13 (.fieldAddr 5) [.T 12], .o 14 (.load false 1 false) [.T 13], .o 15 (.loadF 0 true 3 false) [.T 3],
 .o 16 (.build [.int .i64 0,.int .i64 0,.int .i64 0,.int .i64 0] [(0,1),(1,3)]) [.T 14,.T 15],
 .o 17 (.lit 4 1 [.int .i64 0,.int .i64 0,.int .i64 0,.int .i64 0] [0]) [.T 16], .o 18 (.append 4 32) [.T 10,.T 17], .o 19 .nilCheck [.T 5],
 .o 20 (.fieldAddr 0) [.T 19], .o 21 (.fieldAddr 3) [.T 20], .n (.store 1) [.T 21,.T 18]] (some [(9,5)]) []) (.seq (.region [ .o 22 .move [.T 0],
 .o 23 .nilCheck [.T 22], .o 24 (.fieldAddr 0) [.T 23], .o 25 (.fieldAddr 3) [.T 24], .o 26 (.load false 1 false) [.T 25], .o 27 (.len .sl) [.T 26],
 .o 28 (.bin .sub) [.T 27,.const (.int .i64 1)], .o 4 .move [.T 28]] none []) .ret))) }

/-- runrig/ir.bare -/

def s120 : SFunc := { fid := 120,mode := .pure,nparams := 1,nboxes := 1,clr := [],results := [.tmp 2 false],body :=
 (.seq (.region [ .o 1 (.boxF 0 6) [.T 0], .o 2 .move [.const (.bool false)]] none [2]) (.seq (.seq (.region [ .o 3 (.fieldAddr 0) [.t 1],
 .o 4 (.loadF 0 false 1 false) [.T 3]] none []) (.block 0 (.seq (.seq (.region [ .o 6 (.bin .eql) [.t 4,.const (.int .i64 1)], .o 5 .move [.T 6]] none [])
 (.cond (.t 5) [] .skip [5] (.seq (.region [ .o 7 (.bin .eql) [.t 4,.const (.int .i64 11)], .o 5 .move [.T 7]] none []) (.cond (.t 5) [] .skip [5] (.seq
 (.region [ .o 8 (.bin .eql) [.t 4,.const (.int .i64 19)], .o 5 .move [.T 8]] none []) (.cond (.t 5) [] .skip [5] (.region [
 .o 9 (.bin .eql) [.t 4,.const (.int .i64 20)], .o 5 .move [.T 9]] none []))))))) (.cond (.T 5) [4] (.seq (.region [ .o 10 (.loadF 0 true 6 false) [.T 1],
 .o 11 (.call 127) [.T 10,.const (.bool true),.const (.bool false),.const (.bool false),.const (.bool true)], .o 2 .move [.T 11]] none []) .ret) [] (.seq (.seq
 (.region [ .o 13 (.bin .eql) [.t 4,.const (.int .i64 2)], .o 12 .move [.T 13]] none []) (.cond (.t 12) [] .skip [12] (.seq (.region [
 .o 14 (.bin .eql) [.t 4,.const (.int .i64 14)], .o 12 .move [.T 14]] none []) (.cond (.t 12) [] .skip [12] (.seq (.region [
 .o 15 (.bin .eql) [.t 4,.const (.int .i64 15)], .o 12 .move [.T 15]] none []) (.cond (.t 12) [] .skip [12] (.region [
 .o 16 (.bin .eql) [.t 4,.const (.int .i64 18)], .o 12 .move [.T 16]] none []))))))) (.cond (.T 12) [4] (.seq (.region [ .o 17 (.loadF 0 true 6 false) [.T 1],
 .o 18 (.call 127) [.T 17,.const (.bool true),.const (.bool false),.const (.bool false),.const (.bool false)], .o 2 .move [.T 18]] none []) .ret) [] (.seq
 (.seq (.region [ .o 20 (.bin .eql) [.t 4,.const (.int .i64 3)], .o 19 .move [.T 20]] none []) (.cond (.t 19) [] .skip [19] (.region [
 .o 21 (.bin .eql) [.t 4,.const (.int .i64 10)], .o 19 .move [.T 21]] none []))) (.cond (.T 19) [4] (.seq (.region [ .o 22 (.loadF 0 true 6 false) [.T 1],
 .o 23 (.call 127) [.T 22,.const (.bool true),.const (.bool true),.const (.bool false),.const (.bool false)], .o 2 .move [.T 23]] none []) .ret) [] (.seq (.seq
 (.region [ .o 25 (.bin .eql) [.t 4,.const (.int .i64 5)], .o 24 .move [.T 25]] none []) (.cond (.t 24) [] .skip [24] (.region [
 .o 26 (.bin .eql) [.t 4,.const (.int .i64 12)], .o 24 .move [.T 26]] none []))) (.cond (.T 24) [4] (.seq (.region [ .o 27 (.loadF 0 true 6 false) [.T 1],
 .o 28 (.call 127) [.T 27,.const (.bool true),.const (.bool true),.const (.bool false),.const (.bool true)], .o 2 .move [.T 28]] none []) .ret) [] (.seq (.seq
 (.region [ .o 30 (.bin .eql) [.t 4,.const (.int .i64 6)], .o 29 .move [.T 30]] none []) (.cond (.t 29) [] .skip [29] (.seq (.region [
 .o 31 (.bin .eql) [.t 4,.const (.int .i64 7)], .o 29 .move [.T 31]] none []) (.cond (.t 29) [] .skip [29] (.seq (.region [
 .o 32 (.bin .eql) [.t 4,.const (.int .i64 8)], .o 29 .move [.T 32]] none []) (.cond (.t 29) [] .skip [29] (.region [
 .o 33 (.bin .eql) [.t 4,.const (.int .i64 9)], .o 29 .move [.T 33]] none []))))))) (.cond (.T 29) [4] (.seq (.region [ .o 34 (.loadF 0 true 6 false) [.T 1],
 .o 35 (.call 127) [.T 34,.const (.bool true),.const (.bool true),.const (.bool true),.const (.bool false)], .o 2 .move [.T 35]] none []) .ret) [] (.seq
 (.region [ .o 37 (.bin .eql) [.t 4,.const (.int .i64 4)], .o 36 .move [.T 37]] none []) (.cond (.T 36) [4] (.seq (.region [
 .o 38 (.loadF 0 true 6 false) [.T 1], .o 39 (.call 127) [.T 38,.const (.bool true),.const (.bool true),.const (.bool true),.const (.bool true)],
 .o 2 .move [.T 39]] none []) .ret) [] (.seq (.region [ .o 41 (.bin .eql) [.t 4,.const (.int .i64 13)], .o 40 .move [.T 41]] none []) (.cond (.T 40) [4] (.seq
 (.region [ .o 42 (.loadF 0 true 6 false) [.T 1], .o 43 (.call 127) [.T 42,.const (.bool true),.const (.bool false),.const (.bool true),.const (.bool false)],
 .o 2 .move [.T 43]] none []) .ret) [] (.seq (.region [ .o 45 (.bin .eql) [.t 4,.const (.int .i64 16)], .o 44 .move [.T 45]] none []) (.cond (.T 44) [4] (.seq
 (.region [ .o 46 (.loadF 0 true 6 false) [.T 1], .o 47 (.call 127) [.T 46,.const (.bool false),.const (.bool false),.const (.bool false),.const (.bool true)],
 .o 2 .move [.T 47]] none []) .ret) [] (.seq (.region [ .o 49 (.bin .eql) [.T 4,.const (.int .i64 17)], .o 48 .move [.T 49]] none []) (.cond (.T 48) [] (.seq
 (.region [ .o 50 (.loadF 0 true 6 false) [.T 1], .o 51 (.call 127) [.T 50,.const (.bool true),.const (.bool false),.const (.bool true),.const (.bool true)],
 .o 2 .move [.T 51]] none []) .ret) [1] .skip)))))))))))))))))))) (.seq (.region [ .o 2 .move [.const (.bool false)]] none []) .ret))) }

/-- (runrig/ir.view).fits -/

def s121 : SFunc := { fid := 121,mode := .pure,nparams := 1,nboxes := 3,clr := [],results := [.tmp 2 false],body :=
 (.seq (.region [ .o 1 (.boxF 0 19) [.T 0], .o 2 .move [.const (.bool false)]] none [2]) (.seq (.region [ .o 5 (.fieldAddr 13) [.t 1],
 .o 6 (.loadF 0 true 6 false) [.T 5], .o 3 (.allocF 1 [.int .i64 0,.int .i64 0,.int .i64 0,.int .i64 0,.int .i64 0,.nilSl]) [],
 .n (.storeF 1 6) [.t 3,.T 6]] none []) (.seq (.seq (.region [ .o 7 (.fieldAddr 0) [.t 3], .o 8 (.loadF 1 false 1 false) [.T 7]] none []) (.block 0 (.seq
 (.region [ .o 10 (.bin .eql) [.t 8,.const (.int .i64 1)], .o 9 .move [.T 10]] none []) (.cond (.T 9) [8] (.seq (.region [
 .o 11 (.loadF 0 true 19 false) [.t 1], .o 12 (.fieldAddr 1) [.t 3], .o 13 (.loadF 1 false 1 false) [.T 12], .o 14 (.lit 1 1 [.int .i64 0] [0]) [.T 13],
 .o 15 (.call 128) [.T 11,.T 14], .o 16 .move [.T 15], .z 17 (.loadF 0 true 19 false) [.T 1] 16, .z 18 (.fieldAddr 1) [.t 3] 16,
 .z 19 (.loadF 1 false 1 false) [.T 18] 16, .z 20 (.lit 1 1 [.int .i64 0] [0]) [.T 19] 16, .z 21 (.call 129) [.T 17,.T 20] 16, .z 22 .move [.T 21] 16,
 .y 23 (.fieldAddr 4) [.t 3] 22, .y 24 (.loadF 1 false 1 false) [.T 23] 22, .y 25 (.bin .eql) [.T 24,.const (.int .i64 0)] 22, .y 26 .move [.T 25] 22,
 .z 27 (.fieldAddr 4) [.T 3] 26, .z 28 (.loadF 1 false 1 false) [.T 27] 26, .z 29 (.bin .eql) [.T 28,.const (.int .i64 1)] 26,
 .y 30 .pick [.T 26,.const (.bool true),.T 29] 22, .z 31 .pick [.T 22,.T 30,.const (.bool false)] 16, .o 32 .pick [.T 16,.const (.bool true),.T 31],
 .o 2 .move [.T 32]] none [1,3,17,18,19,20,21,22,23,24,25,26,27,28,29,30]) .ret) [] (.seq (.region [ .o 34 (.bin .eql) [.t 8,.const (.int .i64 2)],
 .o 33 .move [.T 34]] none []) (.cond (.T 33) [8] (.seq (.region [ .o 35 (.loadF 0 true 19 false) [.T 1], .o 36 (.fieldAddr 1) [.T 3],
 .o 37 (.loadF 1 false 1 false) [.T 36], .o 38 (.call 130) [.T 35,.T 37], .o 39 (.call 86) [.T 38], .o 2 .move [.T 39]] none []) .ret) [] (.seq (.region [
 .o 41 (.bin .eql) [.t 8,.const (.int .i64 3)], .o 40 .move [.T 41]] none []) (.cond (.T 40) [8] (.seq (.region [ .o 42 (.loadF 0 true 19 false) [.t 1],
 .o 43 (.loadF 0 true 19 false) [.t 1], .o 44 (.fieldAddr 1) [.t 3], .o 45 (.loadF 1 false 1 false) [.T 44], .o 46 (.call 130) [.T 43,.T 45],
 .o 47 (.fieldAddr 2) [.t 3], .o 48 (.loadF 1 false 1 false) [.T 47], .o 49 (.lit 1 1 [.int .i64 0] [0]) [.T 48], .o 50 (.call 131) [.T 42,.T 46,.T 49],
 .o 2 .move [.T 50]] (some []) [1,3]) .ret) [] (.seq (.region [ .o 52 (.bin .eql) [.t 8,.const (.int .i64 4)], .o 51 .move [.T 52]] none [])
 (.cond (.T 51) [3,8] (.seq (.region [ .o 53 (.loadF 0 true 19 false) [.T 1], .o 54 (.call 132) [.T 53], .o 2 .move [.T 54]] none []) .ret) [] (.seq (.region [
 .o 56 (.bin .eql) [.t 8,.const (.int .i64 5)], .o 55 .move [.T 56]] none []) (.cond (.T 55) [8] (.seq (.region [ .o 57 (.fieldAddr 4) [.t 3],
 .o 58 (.loadF 1 false 1 false) [.T 57], .o 59 (.bin .eql) [.T 58,.const (.int .i64 12)], .o 60 .move [.T 59], .y 61 (.loadF 0 true 19 false) [.t 1] 60,
 .y 62 (.fieldAddr 1) [.t 3] 60, .y 63 (.loadF 1 false 1 false) [.T 62] 60, .y 64 (.fieldAddr 2) [.t 3] 60, .y 65 (.loadF 1 false 1 false) [.T 64] 60,
 .y 66 (.lit 1 2 [.int .i64 0] [0,1]) [.T 63,.T 65] 60, .y 67 (.call 128) [.T 61,.T 66] 60, .o 68 .pick [.T 60,.T 67,.const (.bool false)],
 .o 69 .move [.T 68], .z 70 (.fieldAddr 4) [.t 3] 69, .z 71 (.loadF 1 false 1 false) [.T 70] 69, .z 72 (.bin .eql) [.T 71,.const (.int .i64 13)] 69,
 .z 73 .move [.T 72] 69, .y 74 (.loadF 0 true 19 false) [.T 1] 73, .y 75 (.fieldAddr 1) [.t 3] 73, .y 76 (.loadF 1 false 1 false) [.T 75] 73,
 .y 77 (.fieldAddr 2) [.T 3] 73, .y 78 (.loadF 1 false 1 false) [.T 77] 73, .y 79 (.lit 1 2 [.int .i64 0] [0,1]) [.T 76,.T 78] 73,
 .y 80 (.call 129) [.T 74,.T 79] 73, .z 81 .pick [.T 73,.T 80,.const (.bool false)] 69, .o 82 .pick [.T 69,.const (.bool true),.T 81],
 .o 2 .move [.T 82]] none [1,3,61,62,63,64,65,66,70,71,72,73,74,75,76,77,78,79,80]) .ret) [] (.seq (.region [ .o 84 (.bin .eql) [.t 8,.const (.int .i64 6)],
 .o 83 .move [.T 84]] none []) (.cond (.T 83) [8] (.seq (.region [ .o 85 (.loadF 0 true 19 false) [.T 1], .o 86 (.fieldAddr 2) [.t 3],
 .o 87 (.loadF 1 false 1 false) [.T 86], .o 88 (.fieldAddr 3) [.t 3], .o 89 (.loadF 1 false 1 false) [.T 88], .o 90 (.fieldAddr 1) [.T 3],
 .o 91 (.loadF 1 false 1 false) [.T 90], .o 92 (.call 133) [.T 85,.T 87,.T 89,.T 91], .o 2 .move [.T 92]] none []) .ret) [] (.seq (.region [
 .o 94 (.bin .eql) [.t 8,.const (.int .i64 7)], .o 93 .move [.T 94]] none []) (.cond (.T 93) [8] (.seq (.region [ .o 95 (.loadF 0 true 19 false) [.T 1],
 .o 96 (.fieldAddr 1) [.t 3], .o 97 (.loadF 1 false 1 false) [.T 96], .o 98 (.fieldAddr 3) [.t 3], .o 99 (.loadF 1 false 1 false) [.T 98],
 .o 100 (.fieldAddr 2) [.T 3], .o 101 (.loadF 1 false 1 false) [.T 100], .o 102 (.call 133) [.T 95,.T 97,.T 99,.T 101], .o 2 .move [.T 102]] none []) .ret) []
 (.seq (.region [ .o 104 (.bin .eql) [.t 8,.const (.int .i64 8)], .o 103 .move [.T 104]] none []) (.cond (.T 103) [8] (.seq (.region [
 .o 105 (.loadF 0 true 19 false) [.t 1], .o 106 (.fieldAddr 2) [.t 3], .o 107 (.loadF 1 false 1 false) [.T 106], .o 108 (.fieldAddr 1) [.t 3],
 .o 109 (.loadF 1 false 1 false) [.T 108], .o 110 (.call 134) [.T 105,.T 107,.T 109], .o 111 .move [.T 110], .y 112 (.loadF 0 true 19 false) [.T 1] 111,
 .y 113 (.fieldAddr 3) [.T 3] 111, .y 114 (.loadF 1 false 1 false) [.T 113] 111, .y 115 (.lit 1 1 [.int .i64 0] [0]) [.T 114] 111,
 .y 116 (.call 128) [.T 112,.T 115] 111, .o 117 .pick [.T 111,.T 116,.const (.bool false)], .o 2 .move [.T 117]] none [1,3,112,113,114,115]) .ret) [] (.seq
 (.region [ .o 119 (.bin .eql) [.t 8,.const (.int .i64 9)], .o 118 .move [.T 119]] none []) (.cond (.T 118) [8] (.seq (.region [
 .o 120 (.loadF 0 true 19 false) [.t 1], .o 121 (.fieldAddr 1) [.t 3], .o 122 (.loadF 1 false 1 false) [.T 121], .o 123 (.fieldAddr 3) [.t 3],
 .o 124 (.loadF 1 false 1 false) [.T 123], .o 125 (.call 134) [.T 120,.T 122,.T 124], .o 126 .move [.T 125], .y 127 (.loadF 0 true 19 false) [.T 1] 126,
 .y 128 (.fieldAddr 2) [.T 3] 126, .y 129 (.loadF 1 false 1 false) [.T 128] 126, .y 130 (.lit 1 1 [.int .i64 0] [0]) [.T 129] 126,
 .y 131 (.call 128) [.T 127,.T 130] 126, .o 132 .pick [.T 126,.T 131,.const (.bool false)], .o 2 .move [.T 132]] none [1,3,127,128,129,130]) .ret) [] (.seq
 (.region [ .o 134 (.bin .eql) [.t 8,.const (.int .i64 10)], .o 133 .move [.T 134]] none []) (.cond (.T 133) [8] (.seq (.region [
 .o 135 (.loadF 0 true 19 false) [.t 1], .o 136 (.fieldAddr 1) [.t 3], .o 137 (.loadF 1 false 1 false) [.T 136], .o 138 (.lit 1 1 [.int .i64 0] [0]) [.T 137],
 .o 139 (.call 128) [.T 135,.T 138], .o 140 .move [.T 139], .y 141 (.loadF 0 true 19 false) [.T 1] 140, .y 142 (.fieldAddr 2) [.T 3] 140,
 .y 143 (.loadF 1 false 1 false) [.T 142] 140, .y 144 (.call 130) [.T 141,.T 143] 140, .y 145 (.field 2 1 false) [.T 144] 140,
 .y 146 (.bin .gtr) [.T 145,.const (.int .i64 0)] 140, .o 147 .pick [.T 140,.T 146,.const (.bool false)], .o 2 .move [.T 147]] none [1,3,141,142,143,144,145])
 .ret) [] (.seq (.region [ .o 149 (.bin .eql) [.t 8,.const (.int .i64 11)], .o 148 .move [.T 149]] none []) (.cond (.T 148) [8] (.seq (.region [
 .o 150 (.loadF 0 true 19 false) [.t 1], .o 151 (.fieldAddr 1) [.t 3], .o 152 (.loadF 1 false 1 false) [.T 151], .o 153 (.call 130) [.T 150,.T 152],
 .o 4 (.allocF 2 [.int .i64 0,.int .i64 0,.int .i64 0]) [], .n (.storeF 2 3) [.t 4,.T 153]] none []) (.seq (.region [ .o 154 (.fieldAddr 0) [.t 4],
 .o 155 (.loadF 2 false 1 false) [.T 154], .o 156 (.bin .eql) [.T 155,.const (.int .i64 3)], .o 157 .move [.T 156], .y 158 (.fieldAddr 2) [.T 4] 157,
 .y 159 (.loadF 2 false 1 false) [.T 158] 157, .y 160 (.bin .eql) [.T 159,.const (.int .i64 0)] 157, .o 161 .pick [.T 157,.T 160,.const (.bool false)],
 .o 162 .move [.T 161], .y 163 (.loadF 0 true 19 false) [.T 1] 162, .y 164 (.fieldAddr 4) [.t 3] 162, .y 165 (.loadF 1 false 1 false) [.T 164] 162,
 .y 166 (.fieldAddr 1) [.T 3] 162, .y 167 (.loadF 1 false 1 false) [.T 166] 162, .y 168 (.call 135) [.T 163,.T 165,.T 167] 162,
 .o 169 .pick [.T 162,.T 168,.const (.bool false)], .o 2 .move [.T 169]] none [1,3,4,158,159,163,164,165,166,167]) .ret)) [] (.seq (.region [
 .o 171 (.bin .eql) [.T 8,.const (.int .i64 12)], .o 170 .move [.T 171]] none []) (.cond (.T 170) [] (.seq (.region [ .o 172 (.loadF 0 true 19 false) [.t 1],
 .o 173 (.fieldAddr 1) [.t 3], .o 174 (.loadF 1 false 1 false) [.T 173], .o 175 (.call 130) [.T 172,.T 174], .o 176 (.field 2 1 false) [.T 175],
 .o 177 (.bin .gtr) [.T 176,.const (.int .i64 0)], .o 178 .move [.T 177], .y 179 (.loadF 0 true 19 false) [.t 1] 178, .y 180 (.fieldAddr 4) [.t 3] 178,
 .y 181 (.loadF 1 false 1 false) [.T 180] 178, .y 182 (.fieldAddr 1) [.t 3] 178, .y 183 (.loadF 1 false 1 false) [.T 182] 178,
 .y 184 (.call 135) [.T 179,.T 181,.T 183] 178, .o 185 .pick [.T 178,.T 184,.const (.bool false)], .o 186 .move [.T 185],
 .y 187 (.loadF 0 true 19 false) [.T 1] 186, .y 188 (.fieldAddr 2) [.T 3] 186, .y 189 (.loadF 1 false 1 false) [.T 188] 186,
 .y 190 (.lit 1 1 [.int .i64 0] [0]) [.T 189] 186, .y 191 (.call 128) [.T 187,.T 190] 186, .o 192 .pick [.T 186,.T 191,.const (.bool false)],
 .o 2 .move [.T 192]] none [1,3,179,180,181,182,183,187,188,189,190]) .ret) [3] .skip)))))))))))))))))))))))))) (.seq (.region [
 .o 193 (.loadF 0 true 19 false) [.T 1], .o 194 (.call 136) [.T 193], .o 2 .move [.T 194]] none []) .ret)))) }

/-- (*runrig/runrigref3.reader).unary -/

def s122 : SFunc := { fid := 122,mode := .scp,nparams := 1,nboxes := 3,clr := [],results := [.box 2 0 11 true],body :=
 (.seq (.region [
 .o 2 (.allocF 0 [.int .i64 0,.int .i64 0,.str [],.str [],.int .i64 0,.nilSl,.int .i64 0,.int .i64 0,.int .i64 0,.int .i64 0,.int .i64 0]) []] none []) (.seq
 (.region [ .o 6 .move [.t 0], .o 7 (.call 33) [.T 6], .o 3 (.allocF 1 [.int .i64 0,.str [],.int .i64 0,.int .i64 0]) [],
 .n (.storeF 1 4) [.t 3,.T 7]] none []) (.seq (.region [ .o 4 .move [.const (.int .i64 0)]] none [4]) (.seq (.block 0 (.seq (.region [ .o 13 .move [.t 0],
 .o 14 (.call 34) [.T 13,.const (.str [45])], .o 12 .move [.T 14]] none []) (.cond (.T 12) [] (.region [ .o 4 .move [.const (.int .i64 12)]] none []) [] (.seq
 (.region [ .o 16 .move [.t 0], .o 17 (.call 34) [.T 16,.const (.str [33])], .o 15 .move [.T 17]] none []) (.cond (.T 15) [] (.region [
 .o 4 .move [.const (.int .i64 13)]] none []) [3] (.seq (.region [ .o 8 .move [.t 0], .o 9 .move [.T 0], .o 10 (.call 138) [.T 9],
 .o 11 (.call 137) [.T 8,.T 10], .n (.storeF 0 11) [.t 2,.T 11]] none []) .ret)))))) (.seq (.region [ .o 18 .move [.t 0], .o 19 (.fieldAddr 1) [.t 3],
 .o 20 (.loadF 1 false 1 false) [.T 19], .o 21 (.call 96) [.T 18,.T 20]] none [21]) (.seq (.region [ .o 22 .move [.t 0],
 .o 23 (.call 110) [.T 22,.const (.int .i64 5)],
 .o 5 (.allocF 2 [.int .i64 0,.int .i64 0,.str [],.str [],.int .i64 0,.nilSl,.int .i64 0,.int .i64 0,.int .i64 0,.int .i64 0,.int .i64 0]) [],
 .n (.storeF 2 11) [.t 5,.T 23]] none []) (.seq (.region [ .o 24 .move [.T 0], .o 25 .nilCheck [.t 24], .o 26 (.fieldAddr 2) [.T 25],
 .o 27 (.load false 1 false) [.T 26], .o 28 (.bin .sub) [.T 27,.const (.int .i64 1)], .o 29 .nilCheck [.T 24], .o 30 (.fieldAddr 2) [.T 29],
 .n (.store 1) [.T 30,.T 28]] none []) (.seq (.region [ .o 31 .move [.T 4], .o 32 (.loadF 2 true 11 false) [.T 5],
 .o 33 (.lit 11 1 [.int .i64 0,.int .i64 0,.str [],.str [],.int .i64 0,.nilSl,.int .i64 0,.int .i64 0,.int .i64 0,.int .i64 0,.int .i64 0] [0]) [.T 32],
 .o 34 (.fieldAddr 3) [.T 3], .o 35 (.loadF 1 false 1 false) [.T 34],
 .o 36 (.build [.int .i64 0,.int .i64 0,.str [],.str [],.int .i64 0,.nilSl,.int .i64 0,.int .i64 0,.int .i64 0,.int .i64 0,.int .i64 0] [(0,1),(5,1),(6,1)]) [.T 31,.T 33,.T 35],
 .n (.storeF 0 11) [.t 2,.T 36]] none []) .ret)))))))) }

/-- runrig/runrigref3.level -/
def s123_l0 : SCode :=
 (.seq (.seq (.region [ .o 23 .move [.t 7], .o 24 .move [.t 5], .o 25 .move [.t 0], .o 26 (.indexAddr 1) [.T 24,.T 25], .o 27 (.load false 1 false) [.T 26],
 .o 28 (.len .sl) [.T 27], .o 29 (.bin .lss) [.T 23,.T 28]] none []) (.cond (.T 29) [] .skip [0,3,5,6,7] (.exit 0))) (.seq (.block 1 (.seq (.region [
 .o 32 .move [.t 5], .o 33 .move [.t 0], .o 34 (.indexAddr 1) [.T 32,.T 33], .o 35 (.load false 1 false) [.T 34], .o 36 .move [.t 7],
 .o 37 (.indexAddr 1) [.T 35,.T 36], .o 38 (.load false 1 false) [.T 37], .o 39 (.fieldAddr 1) [.t 3], .o 40 (.loadF 0 false 1 false) [.T 39],
 .o 41 (.bin .eql) [.T 38,.T 40]] (some []) []) (.cond (.T 41) [3,5] (.seq (.region [ .o 42 .move [.T 6], .o 43 .move [.T 0],
 .o 44 (.indexAddr 1) [.T 42,.T 43], .o 45 (.load false 1 false) [.T 44], .o 46 .move [.T 7], .o 47 (.indexAddr 1) [.T 45,.T 46],
 .o 48 (.load false 1 false) [.T 47], .o 4 .move [.T 48]] none []) .ret) [] .skip))) (.region [ .o 30 .move [.T 7],
 .o 31 (.bin .add) [.T 30,.const (.int .i64 1)], .o 7 .move [.T 31]] none [])))
def s123 : SFunc := { fid := 123,mode := .pure,nparams := 2,nboxes := 1,clr := [],results := [.tmp 4 false],body :=
 (.seq (.region [ .o 3 (.boxF 0 4) [.T 1], .o 4 .move [.const (.int .i64 0)]] none [4]) (.seq (.seq (.region [ .o 8 (.fieldAddr 0) [.t 3],
 .o 9 (.loadF 0 false 1 false) [.T 8], .o 10 (.bin .neq) [.T 9,.const (.int .i64 4)]] none []) (.cond (.T 10) [0,3] (.seq (.region [
 .o 4 .move [.const (.int .i64 0)]] none []) .ret) [] .skip)) (.seq (.region [ .o 11 (.lit 1 1 [.str []] [0]) [.const (.str [124,124])],
 .o 12 (.lit 1 1 [.str []] [0]) [.const (.str [38,38])],
 .o 13 (.lit 1 4 [.str []] [0,1,2,3]) [.const (.str [60]),.const (.str [60,61]),.const (.str [61,61]),.const (.str [33,61])],
 .o 14 (.lit 1 2 [.str []] [0,1]) [.const (.str [43]),.const (.str [45])],
 .o 15 (.lit 1 3 [.str []] [0,1,2]) [.const (.str [42]),.const (.str [47]),.const (.str [37])],
 .o 16 (.lit 1 5 [.nilSl] [0,1,2,3,4]) [.T 11,.T 12,.T 13,.T 14,.T 15], .o 5 .move [.T 16]] none []) (.seq (.region [
 .o 17 (.lit 1 1 [.int .i64 0] [0]) [.const (.int .i64 24)], .o 18 (.lit 1 1 [.int .i64 0] [0]) [.const (.int .i64 23)],
 .o 19 (.lit 1 4 [.int .i64 0] [0,1,2,3]) [.const (.int .i64 19),.const (.int .i64 20),.const (.int .i64 21),.const (.int .i64 22)],
 .o 20 (.lit 1 2 [.int .i64 0] [0,1]) [.const (.int .i64 14),.const (.int .i64 15)],
 .o 21 (.lit 1 3 [.int .i64 0] [0,1,2]) [.const (.int .i64 16),.const (.int .i64 17),.const (.int .i64 18)],
 .o 22 (.lit 1 5 [.nilSl] [0,1,2,3,4]) [.T 17,.T 18,.T 19,.T 20,.T 21], .o 6 .move [.T 22]] none []) (.seq (.seq (.region [
 .o 7 .move [.const (.int .i64 0)]] none []) (.block 0 (.loop s123_l0))) (.seq (.region [ .o 4 .move [.const (.int .i64 0)]] none []) .ret)))))) }

/-- runrig/runrigref7.kids -/

def s124 : SFunc := { fid := 124,mode := .pure,nparams := 1,nboxes := 0,clr := [],results := [.tmp 2 false],body :=
 (.seq (.region [ .o 2 .move [.const (.int .i64 0)]] none [2]) (.seq (.seq (.region [ .o 3 .move [.T 0]] none []) (.block 0 (.seq (.seq (.region [
 .o 5 (.bin .eql) [.t 3,.const (.int .i64 1)], .o 4 .move [.T 5]] none []) (.cond (.t 4) [] .skip [4] (.seq (.region [
 .o 6 (.bin .eql) [.t 3,.const (.int .i64 2)], .o 4 .move [.T 6]] none []) (.cond (.t 4) [] .skip [4] (.seq (.region [
 .o 7 (.bin .eql) [.t 3,.const (.int .i64 3)], .o 4 .move [.T 7]] none []) (.cond (.t 4) [] .skip [4] (.seq (.region [
 .o 8 (.bin .eql) [.t 3,.const (.int .i64 4)], .o 4 .move [.T 8]] none []) (.cond (.t 4) [] .skip [4] (.seq (.region [
 .o 9 (.bin .eql) [.t 3,.const (.int .i64 8)], .o 4 .move [.T 9]] none []) (.cond (.t 4) [] .skip [4] (.region [
 .o 10 (.bin .eql) [.t 3,.const (.int .i64 11)], .o 4 .move [.T 10]] none []))))))))))) (.cond (.T 4) [3] (.seq (.region [
 .o 2 .move [.const (.int .i64 0)]] none []) .ret) [] (.seq (.seq (.region [ .o 12 (.bin .eql) [.t 3,.const (.int .i64 5)], .o 11 .move [.T 12]] none [])
 (.cond (.t 11) [] .skip [11] (.seq (.region [ .o 13 (.bin .eql) [.t 3,.const (.int .i64 9)], .o 11 .move [.T 13]] none []) (.cond (.t 11) [] .skip [11] (.seq
 (.region [ .o 14 (.bin .eql) [.t 3,.const (.int .i64 10)], .o 11 .move [.T 14]] none []) (.cond (.t 11) [] .skip [11] (.seq (.region [
 .o 15 (.bin .eql) [.t 3,.const (.int .i64 12)], .o 11 .move [.T 15]] none []) (.cond (.t 11) [] .skip [11] (.region [
 .o 16 (.bin .eql) [.t 3,.const (.int .i64 13)], .o 11 .move [.T 16]] none []))))))))) (.cond (.T 11) [3] (.seq (.region [
 .o 2 .move [.const (.int .i64 1)]] none []) .ret) [] (.seq (.region [ .o 18 (.bin .eql) [.t 3,.const (.int .i64 7)], .o 17 .move [.T 18]] none [])
 (.cond (.T 17) [3] (.seq (.region [ .o 2 .move [.const (.int .i64 (-1))]] none []) .ret) [] (.seq (.seq (.region [
 .o 20 (.bin .eql) [.t 3,.const (.int .i64 6)], .o 19 .move [.T 20]] none []) (.cond (.t 19) [3] .skip [19] (.seq (.region [
 .o 21 (.bin .eql) [.t 3,.const (.int .i64 14)], .o 19 .move [.T 21]] none []) (.cond (.t 19) [3] .skip [19] (.seq (.region [
 .o 22 (.bin .eql) [.t 3,.const (.int .i64 15)], .o 19 .move [.T 22]] none []) (.cond (.t 19) [3] .skip [19] (.seq (.region [
 .o 23 (.bin .eql) [.t 3,.const (.int .i64 16)], .o 19 .move [.T 23]] none []) (.cond (.t 19) [3] .skip [19] (.seq (.region [
 .o 24 (.bin .eql) [.t 3,.const (.int .i64 17)], .o 19 .move [.T 24]] none []) (.cond (.t 19) [3] .skip [19] (.seq (.region [
 .o 25 (.bin .eql) [.t 3,.const (.int .i64 18)], .o 19 .move [.T 25]] none []) (.cond (.t 19) [3] .skip [19] (.seq (.region [
 .o 26 (.bin .eql) [.t 3,.const (.int .i64 19)], .o 19 .move [.T 26]] none []) (.cond (.t 19) [3] .skip [19] (.seq (.region [
 .o 27 (.bin .eql) [.t 3,.const (.int .i64 20)], .o 19 .move [.T 27]] none []) (.cond (.t 19) [3] .skip [19] (.seq (.region [
 .o 28 (.bin .eql) [.t 3,.const (.int .i64 21)], .o 19 .move [.T 28]] none []) (.cond (.t 19) [3] .skip [19] (.seq (.region [
 .o 29 (.bin .eql) [.t 3,.const (.int .i64 22)], .o 19 .move [.T 29]] none []) (.cond (.t 19) [3] .skip [19] (.seq (.region [
 .o 30 (.bin .eql) [.t 3,.const (.int .i64 23)], .o 19 .move [.T 30]] none []) (.cond (.t 19) [3] .skip [19] (.region [
 .o 31 (.bin .eql) [.T 3,.const (.int .i64 24)], .o 19 .move [.T 31]] none []))))))))))))))))))))))) (.cond (.T 19) [] (.seq (.region [
 .o 2 .move [.const (.int .i64 2)]] none []) .ret) [] .skip)))))))))) (.seq (.region [ .o 2 .move [.const (.int .i64 (-2))]] none []) .ret))) }

/-- (*runrig/runrigref7.checker).signs -/

def s125 : SFunc := { fid := 125,mode := .scp,nparams := 2,nboxes := 2,clr := [0],results := [.tmp 4 false],body :=
 (.seq (.region [ .o 4 .move [.const (.bool false)]] none [4]) (.seq (.region [ .o 7 .move [.t 1], .o 8 .nilCheck [.T 7], .o 9 (.fieldAddr 5) [.T 8],
 .o 10 (.load false 1 false) [.T 9], .o 11 (.indexAddr 11) [.T 10,.const (.int .i64 0)], .o 12 (.fieldAddr 7) [.T 11], .o 13 (.load true 3 false) [.T 12],
 .o 5 (.allocF 0 [.int .i64 0,.int .i64 0,.int .i64 0]) [], .n (.storeF 0 3) [.t 5,.T 13]] none []) (.seq (.region [ .o 14 (.loadF 0 true 3 false) [.t 5],
 .o 6 (.allocF 1 [.int .i64 0,.int .i64 0,.int .i64 0]) [], .n (.storeF 1 3) [.t 6,.T 14]] none []) (.seq (.seq (.region [ .o 15 .move [.t 1],
 .o 16 .nilCheck [.T 15], .o 17 (.fieldAddr 5) [.T 16], .o 18 (.load false 1 false) [.T 17], .o 19 (.len .sl) [.T 18],
 .o 20 (.bin .eql) [.T 19,.const (.int .i64 2)]] none []) (.cond (.T 20) [] (.region [ .o 21 .move [.t 1], .o 22 .nilCheck [.T 21],
 .o 23 (.fieldAddr 5) [.T 22], .o 24 (.load false 1 false) [.T 23], .o 25 (.indexAddr 11) [.T 24,.const (.int .i64 1)], .o 26 (.fieldAddr 7) [.T 25],
 .o 27 (.load true 3 false) [.T 26], .n (.storeF 1 3) [.t 6,.T 27]] none []) [] .skip)) (.seq (.seq (.region [ .o 28 .move [.t 1], .o 29 .nilCheck [.T 28],
 .o 30 (.fieldAddr 0) [.T 29], .o 31 (.load false 1 false) [.T 30]] none []) (.block 0 (.seq (.seq (.region [ .o 33 (.bin .eql) [.t 31,.const (.int .i64 12)],
 .o 32 .move [.T 33]] none []) (.cond (.t 32) [] .skip [32] (.seq (.region [ .o 34 (.bin .eql) [.t 31,.const (.int .i64 14)], .o 32 .move [.T 34]] none [])
 (.cond (.t 32) [] .skip [32] (.seq (.region [ .o 35 (.bin .eql) [.t 31,.const (.int .i64 15)], .o 32 .move [.T 35]] none []) (.cond (.t 32) [] .skip [32]
 (.seq (.region [ .o 36 (.bin .eql) [.t 31,.const (.int .i64 16)], .o 32 .move [.T 36]] none []) (.cond (.t 32) [] .skip [32] (.seq (.region [
 .o 37 (.bin .eql) [.t 31,.const (.int .i64 17)], .o 32 .move [.T 37]] none []) (.cond (.t 32) [] .skip [32] (.region [
 .o 38 (.bin .eql) [.t 31,.const (.int .i64 18)], .o 32 .move [.T 38]] none []))))))))))) (.cond (.T 32) [31] (.seq (.region [ .o 39 .move [.T 1],
 .o 40 (.call 118) [], .o 41 .nilCheck [.T 39], .o 42 (.fieldAddr 7) [.T 41], .n (.store 3) [.T 42,.T 40]] none []) (.seq (.region [
 .o 43 (.loadF 0 true 3 false) [.T 5], .o 44 (.call 118) [], .o 45 (.eqv (.flat [.int,.int,.int]) false) [.T 43,.T 44], .o 46 .move [.T 45],
 .y 47 (.loadF 1 true 3 false) [.T 6] 46, .y 48 (.call 118) [] 46, .y 49 (.eqv (.flat [.int,.int,.int]) false) [.T 47,.T 48] 46,
 .o 50 .pick [.t 46,.T 49,.const (.bool false)], .o 4 .move [.T 50]] (some []) [6,46,47,48]) .ret)) [] (.seq (.seq (.region [
 .o 52 (.bin .eql) [.t 31,.const (.int .i64 19)], .o 51 .move [.T 52]] none []) (.cond (.t 51) [] .skip [51] (.region [
 .o 53 (.bin .eql) [.t 31,.const (.int .i64 20)], .o 51 .move [.T 53]] none []))) (.cond (.T 51) [31] (.seq (.region [ .o 54 .move [.T 1],
 .o 55 (.call 117) [], .o 56 .nilCheck [.T 54], .o 57 (.fieldAddr 7) [.T 56], .n (.store 3) [.T 57,.T 55]] none []) (.seq (.region [
 .o 58 (.loadF 0 true 3 false) [.T 5], .o 59 (.call 118) [], .o 60 (.eqv (.flat [.int,.int,.int]) false) [.T 58,.T 59], .o 61 .move [.T 60],
 .y 62 (.loadF 1 true 3 false) [.T 6] 61, .y 63 (.call 118) [] 61, .y 64 (.eqv (.flat [.int,.int,.int]) false) [.T 62,.T 63] 61,
 .o 65 .pick [.t 61,.T 64,.const (.bool false)], .o 4 .move [.T 65]] (some []) [6,61,62,63]) .ret)) [] (.seq (.seq (.region [
 .o 67 (.bin .eql) [.t 31,.const (.int .i64 21)], .o 66 .move [.T 67]] none []) (.cond (.t 66) [31] .skip [66] (.region [
 .o 68 (.bin .eql) [.T 31,.const (.int .i64 22)], .o 66 .move [.T 68]] none []))) (.cond (.T 66) [] (.seq (.region [ .o 69 .move [.T 1], .o 70 (.call 117) [],
 .o 71 .nilCheck [.T 69], .o 72 (.fieldAddr 7) [.T 71], .n (.store 3) [.T 72,.T 70]] none []) (.seq (.region [ .o 73 (.loadF 0 true 3 false) [.T 5],
 .o 74 (.loadF 1 true 3 false) [.T 6], .o 75 (.eqv (.flat [.int,.int,.int]) false) [.T 73,.T 74], .o 4 .move [.T 75]] none []) .ret)) [] .skip)))))))) (.seq
 (.region [ .o 76 .move [.T 1], .o 77 (.call 117) [], .o 78 .nilCheck [.T 76], .o 79 (.fieldAddr 7) [.T 78], .n (.store 3) [.T 79,.T 77]] none []) (.seq
 (.region [ .o 80 (.loadF 0 true 3 false) [.T 5], .o 81 (.call 117) [], .o 82 (.eqv (.flat [.int,.int,.int]) false) [.T 80,.T 81], .o 83 .move [.T 82],
 .y 84 (.loadF 1 true 3 false) [.T 6] 83, .y 85 (.call 117) [] 83, .y 86 (.eqv (.flat [.int,.int,.int]) false) [.T 84,.T 85] 83,
 .o 87 .pick [.t 83,.T 86,.const (.bool false)], .o 4 .move [.T 87]] (some []) [6,83,84,85]) .ret))))))) }

/-- (*runrig/runrigref7.checker).plain -/
def s126_l0 : SCode :=
 (.seq (.seq (.region [ .o 235 .move [.t 17], .o 236 .move [.t 16], .o 237 (.len .sl) [.T 236], .o 238 (.bin .lss) [.T 235,.T 237]] none []) (.cond (.T 238) []
 .skip [2,4,16,17] (.exit 1))) (.seq (.block 2 (.seq (.region [ .o 241 .move [.t 16], .o 242 .move [.t 17], .o 243 (.indexAddr 4) [.T 241,.T 242],
 .o 244 (.fieldAddr 0) [.T 243], .o 245 (.load false 1 false) [.T 244], .o 246 (.fieldAddr 2) [.t 4], .o 247 (.loadF 0 false 1 false) [.T 246],
 .o 248 (.bin .eql) [.T 245,.T 247]] (some []) []) (.cond (.T 248) [4] (.seq (.region [ .o 249 .move [.t 2], .o 250 .move [.t 17], .o 251 .nilCheck [.T 249],
 .o 252 (.fieldAddr 10) [.T 251], .n (.store 1) [.T 252,.T 250]] none []) (.seq (.region [ .o 253 .move [.T 2], .o 254 .move [.T 16], .o 255 .move [.T 17],
 .o 256 (.indexAddr 4) [.T 254,.T 255], .o 257 (.fieldAddr 1) [.T 256], .o 258 (.load true 3 false) [.T 257], .o 259 .nilCheck [.T 253],
 .o 260 (.fieldAddr 7) [.T 259], .n (.store 3) [.T 260,.T 258]] none []) (.seq (.region [ .o 6 .move [.const (.bool true)]] none []) .ret))) [] .skip)))
 (.region [ .o 239 .move [.T 17], .o 240 (.bin .add) [.T 239,.const (.int .i64 1)], .o 17 .move [.T 240]] none [])))
def s126 : SFunc := { fid := 126,mode := .scp,nparams := 3,nboxes := 6,clr := [],results := [.tmp 6 false],body :=
 (.seq (.region [ .o 4 (.boxF 0 11) [.T 1], .o 6 .move [.const (.bool false)]] none [6]) (.seq (.seq (.region [ .o 18 (.fieldAddr 0) [.t 4],
 .o 19 (.loadF 0 false 1 false) [.T 18]] none []) (.block 0 (.seq (.region [ .o 21 (.bin .eql) [.t 19,.const (.int .i64 1)], .o 20 .move [.T 21]] none [])
 (.cond (.T 20) [0,19] (.seq (.region [ .o 22 .move [.t 2], .o 23 (.fieldAddr 1) [.T 4], .o 24 (.loadF 0 false 1 false) [.T 23], .o 25 .nilCheck [.T 22],
 .o 26 (.fieldAddr 1) [.T 25], .n (.store 1) [.T 26,.T 24]] none []) (.seq (.region [ .o 27 .move [.T 2], .o 28 (.call 118) [], .o 29 .nilCheck [.T 27],
 .o 30 (.fieldAddr 7) [.T 29], .n (.store 3) [.T 30,.T 28]] none []) (.seq (.region [ .o 6 .move [.const (.bool true)]] none []) .ret))) [] (.seq (.region [
 .o 32 (.bin .eql) [.t 19,.const (.int .i64 2)], .o 31 .move [.T 32]] none []) (.cond (.T 31) [0,19] (.seq (.region [ .o 33 .move [.t 2],
 .o 34 (.fieldAddr 1) [.T 4], .o 35 (.loadF 0 false 1 false) [.T 34], .o 36 .nilCheck [.T 33], .o 37 (.fieldAddr 1) [.T 36],
 .n (.store 1) [.T 37,.T 35]] none []) (.seq (.region [ .o 38 .move [.T 2], .o 39 (.call 117) [], .o 40 .nilCheck [.T 38], .o 41 (.fieldAddr 7) [.T 40],
 .n (.store 3) [.T 41,.T 39]] none []) (.seq (.region [ .o 6 .move [.const (.bool true)]] none []) .ret))) [] (.seq (.region [
 .o 43 (.bin .eql) [.t 19,.const (.int .i64 11)], .o 42 .move [.T 43]] none []) (.cond (.T 42) [0,4,19] (.seq (.region [ .o 44 .move [.T 2],
 .o 45 (.call 118) [], .o 46 .nilCheck [.T 44], .o 47 (.fieldAddr 7) [.T 46], .n (.store 3) [.T 47,.T 45]] none []) (.seq (.region [
 .o 6 .move [.const (.bool true)]] none []) .ret)) [] (.seq (.seq (.region [ .o 49 (.bin .eql) [.t 19,.const (.int .i64 3)], .o 48 .move [.T 49]] none [])
 (.cond (.t 48) [] .skip [48] (.region [ .o 50 (.bin .eql) [.t 19,.const (.int .i64 8)], .o 48 .move [.T 50]] none []))) (.cond (.T 48) [19] (.seq (.region [
 .o 51 .move [.t 2], .o 52 (.fieldAddr 3) [.t 4], .o 53 (.loadF 0 true 2 false) [.T 52], .o 54 .nilCheck [.T 51], .o 55 (.fieldAddr 3) [.T 54],
 .n (.store 2) [.T 55,.T 53]] none []) (.seq (.region [ .o 57 .move [.T 0], .o 58 .nilCheck [.T 57], .o 59 (.fieldAddr 4) [.T 58],
 .o 60 (.load false 1 false) [.T 59], .o 61 (.fieldAddr 3) [.t 4], .o 62 (.loadF 0 true 2 false) [.T 61], .o 63 (.call 101) [.T 60,.T 62], .o 56 .move [.T 63],
 .o 64 (.extract 0) [.t 56], .o 65 (.extract 1) [.t 56], .o 7 (.allocF 1 [.int .i64 0,.int .i64 0,.int .i64 0]) [], .n (.storeF 1 3) [.t 7,.T 64],
 .o 8 .move [.T 65]] (some []) [56]) (.seq (.region [ .o 66 .move [.T 2], .o 67 (.loadF 1 true 3 false) [.t 7], .o 68 .nilCheck [.T 66],
 .o 69 (.fieldAddr 7) [.T 68], .n (.store 3) [.T 69,.T 67]] none []) (.seq (.region [ .o 70 .move [.T 8], .o 71 .move [.T 70],
 .y 72 (.loadF 1 true 3 false) [.t 7] 71, .y 73 (.call 17) [.T 72] 71, .o 74 .pick [.T 71,.T 73,.const (.bool false)], .o 75 .move [.T 74],
 .y 76 (.fieldAddr 0) [.T 4] 75, .y 77 (.loadF 0 false 1 false) [.T 76] 75, .y 78 (.bin .eql) [.T 77,.const (.int .i64 3)] 75, .y 79 .move [.T 78] 75,
 .z 80 (.fieldAddr 2) [.T 7] 79, .z 81 (.loadF 1 false 1 false) [.T 80] 79, .z 82 (.bin .eql) [.T 81,.const (.int .i64 0)] 79,
 .y 83 .pick [.T 79,.const (.bool true),.T 82] 75, .o 84 .pick [.T 75,.T 83,.const (.bool false)], .o 6 .move [.T 84]] none [4,7,72,76,77,78,79,80,81,82])
 .ret)))) [] (.seq (.region [ .o 86 (.bin .eql) [.t 19,.const (.int .i64 9)], .o 85 .move [.T 86]] none []) (.cond (.T 85) [19] (.seq (.region [
 .o 87 .move [.t 2], .o 88 (.fieldAddr 3) [.t 4], .o 89 (.loadF 0 true 2 false) [.T 88], .o 90 .nilCheck [.T 87], .o 91 (.fieldAddr 3) [.T 90],
 .n (.store 2) [.T 91,.T 89]] none []) (.seq (.region [ .o 93 .move [.T 0], .o 94 .nilCheck [.T 93], .o 95 (.fieldAddr 4) [.T 94],
 .o 96 (.load false 1 false) [.T 95], .o 97 (.fieldAddr 3) [.T 4], .o 98 (.loadF 0 true 2 false) [.T 97], .o 99 (.call 101) [.T 96,.T 98], .o 92 .move [.T 99],
 .o 100 (.extract 0) [.t 92], .o 101 (.extract 1) [.t 92], .o 9 (.allocF 2 [.int .i64 0,.int .i64 0,.int .i64 0]) [], .n (.storeF 2 3) [.t 9,.T 100],
 .o 10 .move [.T 101]] (some []) [92]) (.seq (.region [ .o 102 .move [.t 2], .o 103 (.fieldAddr 0) [.t 9], .o 104 (.loadF 2 false 1 false) [.T 103],
 .o 105 (.fieldAddr 1) [.t 9], .o 106 (.loadF 2 false 1 false) [.T 105], .o 107 (.fieldAddr 2) [.t 9], .o 108 (.loadF 2 false 1 false) [.T 107],
 .o 109 (.bin .add) [.T 108,.const (.int .i64 1)], .o 110 (.build [.int .i64 0,.int .i64 0,.int .i64 0] [(0,1),(1,1),(2,1)]) [.T 104,.T 106,.T 109],
 .o 111 .nilCheck [.T 102], .o 112 (.fieldAddr 7) [.T 111], .n (.store 3) [.T 112,.T 110]] none []) (.seq (.region [ .o 113 .move [.T 10],
 .o 114 .move [.T 113], .y 115 (.fieldAddr 2) [.T 9] 114, .y 116 (.loadF 2 false 1 false) [.T 115] 114, .y 117 (.bin .lss) [.T 116,.const (.int .i64 3)] 114,
 .o 118 .pick [.t 114,.T 117,.const (.bool false)], .o 119 .move [.T 118], .y 120 .move [.T 2] 119, .y 121 .nilCheck [.T 120] 119,
 .y 122 (.fieldAddr 5) [.T 121] 119, .y 123 (.load false 1 false) [.T 122] 119, .y 124 (.indexAddr 11) [.T 123,.const (.int .i64 0)] 119,
 .y 125 (.fieldAddr 7) [.T 124] 119, .y 126 (.load true 3 false) [.T 125] 119, .y 127 (.call 118) [] 119,
 .y 128 (.eqv (.flat [.int,.int,.int]) false) [.T 126,.T 127] 119, .o 129 .pick [.t 119,.T 128,.const (.bool false)],
 .o 6 .move [.T 129]] (some []) [2,9,114,115,116,119,120,121,122,123,124,125,126,127]) .ret)))) [] (.seq (.region [
 .o 131 (.bin .eql) [.t 19,.const (.int .i64 4)], .o 130 .move [.T 131]] none []) (.cond (.T 130) [19] (.seq (.region [ .o 132 .move [.t 2],
 .o 133 (.fieldAddr 2) [.t 4], .o 134 (.loadF 0 false 1 false) [.T 133], .o 135 .nilCheck [.T 132], .o 136 (.fieldAddr 2) [.T 135],
 .n (.store 1) [.T 136,.T 134]] none []) (.seq (.region [ .o 138 .move [.T 0], .o 139 (.fieldAddr 2) [.T 4], .o 140 (.loadF 0 false 1 false) [.T 139],
 .o 141 (.call 116) [.T 138,.T 140], .o 137 .move [.T 141], .o 142 (.extract 0) [.t 137], .o 143 (.extract 1) [.t 137], .o 144 (.extract 2) [.T 137],
 .o 12 (.allocF 3 [.int .i64 0,.int .i64 0,.int .i64 0]) [], .o 11 .move [.T 142], .n (.storeF 3 3) [.t 12,.T 143], .o 13 .move [.T 144]] none []) (.seq
 (.region [ .o 145 .move [.t 2], .o 146 .move [.T 11], .o 147 .nilCheck [.T 145], .o 148 (.fieldAddr 10) [.T 147], .n (.store 1) [.T 148,.T 146]] none [])
 (.seq (.region [ .o 149 .move [.T 2], .o 150 (.loadF 3 true 3 false) [.T 12], .o 151 .nilCheck [.T 149], .o 152 (.fieldAddr 7) [.T 151],
 .n (.store 3) [.T 152,.T 150]] none []) (.seq (.region [ .o 153 .move [.T 13], .o 6 .move [.T 153]] none []) .ret))))) [] (.seq (.region [
 .o 155 (.bin .eql) [.t 19,.const (.int .i64 10)], .o 154 .move [.T 155]] none []) (.cond (.T 154) [0,4,19] (.seq (.region [ .o 156 .move [.t 2],
 .o 157 (.call 118) [], .o 158 .nilCheck [.T 156], .o 159 (.fieldAddr 7) [.T 158], .n (.store 3) [.T 159,.T 157]] none []) (.seq (.region [
 .o 160 .move [.T 2], .o 161 .nilCheck [.T 160], .o 162 (.fieldAddr 5) [.T 161], .o 163 (.load false 1 false) [.T 162],
 .o 164 (.indexAddr 11) [.T 163,.const (.int .i64 0)], .o 165 (.fieldAddr 7) [.T 164], .o 166 (.fieldAddr 2) [.T 165], .o 167 (.load false 1 false) [.T 166],
 .o 168 (.bin .gtr) [.T 167,.const (.int .i64 0)], .o 6 .move [.T 168]] none []) .ret)) [] (.seq (.region [ .o 170 (.bin .eql) [.t 19,.const (.int .i64 6)],
 .o 169 .move [.T 170]] none []) (.cond (.T 169) [0,4,19] (.seq (.region [ .o 171 .move [.t 2], .o 172 .nilCheck [.T 171], .o 173 (.fieldAddr 5) [.T 172],
 .o 174 (.load false 1 false) [.T 173], .o 175 (.indexAddr 11) [.T 174,.const (.int .i64 0)], .o 176 (.fieldAddr 7) [.T 175],
 .o 177 (.load true 3 false) [.T 176], .o 14 (.allocF 4 [.int .i64 0,.int .i64 0,.int .i64 0]) [], .n (.storeF 4 3) [.t 14,.T 177]] none []) (.seq (.region [
 .o 178 .move [.t 2], .o 179 (.fieldAddr 0) [.t 14], .o 180 (.loadF 4 false 1 false) [.T 179], .o 181 (.fieldAddr 1) [.t 14],
 .o 182 (.loadF 4 false 1 false) [.T 181], .o 183 (.fieldAddr 2) [.t 14], .o 184 (.loadF 4 false 1 false) [.T 183],
 .o 185 (.bin .sub) [.T 184,.const (.int .i64 1)], .o 186 (.build [.int .i64 0,.int .i64 0,.int .i64 0] [(0,1),(1,1),(2,1)]) [.T 180,.T 182,.T 185],
 .o 187 .nilCheck [.T 178], .o 188 (.fieldAddr 7) [.T 187], .n (.store 3) [.T 188,.T 186]] none []) (.seq (.region [ .o 189 (.fieldAddr 2) [.T 14],
 .o 190 (.loadF 4 false 1 false) [.T 189], .o 191 (.bin .gtr) [.T 190,.const (.int .i64 0)], .o 192 .move [.T 191], .y 193 .move [.T 2] 192,
 .y 194 .nilCheck [.T 193] 192, .y 195 (.fieldAddr 5) [.T 194] 192, .y 196 (.load false 1 false) [.T 195] 192,
 .y 197 (.indexAddr 11) [.T 196,.const (.int .i64 1)] 192, .y 198 (.fieldAddr 7) [.T 197] 192, .y 199 (.load true 3 false) [.T 198] 192,
 .y 200 (.call 118) [] 192, .y 201 (.eqv (.flat [.int,.int,.int]) false) [.T 199,.T 200] 192, .o 202 .pick [.t 192,.T 201,.const (.bool false)],
 .o 6 .move [.T 202]] (some []) [2,192,193,194,195,196,197,198,199,200]) .ret))) [] (.seq (.region [ .o 204 (.bin .eql) [.T 19,.const (.int .i64 5)],
 .o 203 .move [.T 204]] none []) (.cond (.T 203) [] (.seq (.region [ .o 205 .move [.t 2], .o 206 (.fieldAddr 2) [.t 4],
 .o 207 (.loadF 0 false 1 false) [.T 206], .o 208 .nilCheck [.T 205], .o 209 (.fieldAddr 2) [.T 208], .n (.store 1) [.T 209,.T 207]] none []) (.seq (.region [
 .o 210 .move [.t 2], .o 211 .nilCheck [.T 210], .o 212 (.fieldAddr 5) [.T 211], .o 213 (.load false 1 false) [.T 212],
 .o 214 (.indexAddr 11) [.T 213,.const (.int .i64 0)], .o 215 (.fieldAddr 7) [.T 214], .o 216 (.load true 3 false) [.T 215],
 .o 15 (.allocF 5 [.int .i64 0,.int .i64 0,.int .i64 0]) [], .n (.storeF 5 3) [.t 15,.T 216]] none []) (.seq (.seq (.region [ .o 217 (.fieldAddr 0) [.t 15],
 .o 218 (.loadF 5 false 1 false) [.T 217], .o 219 (.bin .neq) [.T 218,.const (.int .i64 3)], .o 220 .move [.T 219], .z 221 (.fieldAddr 2) [.t 15] 220,
 .z 222 (.loadF 5 false 1 false) [.T 221] 220, .z 223 (.bin .neq) [.T 222,.const (.int .i64 0)] 220,
 .o 224 .pick [.T 220,.const (.bool true),.T 223]] none [221,222]) (.cond (.T 224) [0,2,4,15] (.seq (.region [ .o 6 .move [.const (.bool false)]] none [])
 .ret) [] .skip)) (.seq (.region [ .o 225 .move [.T 0], .o 226 .nilCheck [.T 225], .o 227 (.fieldAddr 0) [.T 226], .o 228 (.fieldAddr 0) [.T 227],
 .o 229 (.load false 1 false) [.T 228], .o 230 (.fieldAddr 1) [.T 15], .o 231 (.loadF 5 false 1 false) [.T 230], .o 232 (.indexAddr 2) [.T 229,.T 231],
 .o 233 (.fieldAddr 1) [.T 232], .o 234 (.load false 1 false) [.T 233], .o 16 .move [.T 234]] (some []) []) (.seq (.seq (.region [
 .o 17 .move [.const (.int .i64 0)]] none []) (.block 1 (.loop s126_l0))) (.seq (.region [ .o 6 .move [.const (.bool false)]] none []) .ret)))))) []
 .skip)))))))))))))))))))) (.seq (.region [ .o 261 .move [.T 0], .o 262 (.loadF 0 true 11 false) [.T 4], .o 263 .move [.T 2],
 .o 264 (.call 139) [.T 261,.T 262,.T 263], .o 6 .move [.T 264]] none []) .ret))) }

/-- runrig/ir.only -/

def s127 : SFunc := { fid := 127,mode := .pure,nparams := 5,nboxes := 1,clr := [],results := [.tmp 10 false],body :=
 (.seq (.region [ .o 5 (.boxF 0 6) [.T 0], .o 10 .move [.const (.bool false)]] none [10]) (.seq (.region [ .o 11 .move [.T 1], .o 12 .move [.T 11],
 .z 13 (.fieldAddr 1) [.t 5] 12, .z 14 (.loadF 0 false 1 false) [.T 13] 12, .z 15 (.bin .eql) [.T 14,.const (.int .i64 0)] 12,
 .o 16 .pick [.T 12,.const (.bool true),.T 15], .o 17 .move [.T 16], .y 18 .move [.T 2] 17, .y 19 .move [.T 18] 17, .z 20 (.fieldAddr 2) [.t 5] 19,
 .z 21 (.loadF 0 false 1 false) [.T 20] 19, .z 22 (.bin .eql) [.T 21,.const (.int .i64 0)] 19, .y 23 .pick [.T 19,.const (.bool true),.T 22] 17,
 .o 24 .pick [.T 17,.T 23,.const (.bool false)], .o 25 .move [.T 24], .y 26 .move [.T 3] 25, .y 27 .move [.T 26] 25, .z 28 (.fieldAddr 3) [.t 5] 27,
 .z 29 (.loadF 0 false 1 false) [.T 28] 27, .z 30 (.bin .eql) [.T 29,.const (.int .i64 0)] 27, .y 31 .pick [.T 27,.const (.bool true),.T 30] 25,
 .o 32 .pick [.T 25,.T 31,.const (.bool false)], .o 33 .move [.T 32], .y 34 .move [.T 4] 33, .y 35 .move [.T 34] 33, .z 36 (.fieldAddr 4) [.t 5] 35,
 .z 37 (.loadF 0 false 1 false) [.T 36] 35, .z 38 (.bin .eql) [.T 37,.const (.int .i64 0)] 35, .y 39 .pick [.T 35,.const (.bool true),.T 38] 33,
 .o 40 .pick [.T 33,.T 39,.const (.bool false)], .o 41 .move [.T 40], .y 42 (.fieldAddr 0) [.t 5] 41, .y 43 (.loadF 0 false 1 false) [.T 42] 41,
 .y 44 (.bin .eql) [.T 43,.const (.int .i64 13)] 41, .y 45 .move [.T 44] 41, .z 46 (.fieldAddr 5) [.T 5] 45, .z 47 (.loadF 0 false 1 false) [.T 46] 45,
 .z 48 (.len .sl) [.T 47] 45, .z 49 (.bin .eql) [.T 48,.const (.int .i64 0)] 45, .y 50 .pick [.T 45,.const (.bool true),.T 49] 41,
 .o 51 .pick [.T 41,.T 50,.const (.bool false)],
 .o 10 .move [.T 51]] none [2,3,4,5,13,14,18,19,20,21,22,26,27,28,29,30,34,35,36,37,38,42,43,44,45,46,47,48,49]) .ret)) }

/-- (runrig/ir.view).ints -/

def s128 : SFunc := { fid := 128,mode := .pure,nparams := 2,nboxes := 1,clr := [],results := [.tmp 4 false],body :=
 (.seq (.region [ .o 2 (.boxF 0 19) [.T 0], .o 4 .move [.const (.bool false)]] none [4]) (.seq (.region [ .o 5 (.loadF 0 true 19 false) [.T 2],
 .o 6 (.build [.int .i64 0,.int .i64 0,.int .i64 0] [(0,1)]) [.const (.int .i64 1)], .o 7 .move [.T 1], .o 8 (.call 131) [.T 5,.T 6,.T 7],
 .o 4 .move [.T 8]] none []) .ret)) }

/-- (runrig/ir.view).bools -/

def s129 : SFunc := { fid := 129,mode := .pure,nparams := 2,nboxes := 1,clr := [],results := [.tmp 4 false],body :=
 (.seq (.region [ .o 2 (.boxF 0 19) [.T 0], .o 4 .move [.const (.bool false)]] none [4]) (.seq (.region [ .o 5 (.loadF 0 true 19 false) [.T 2],
 .o 6 (.build [.int .i64 0,.int .i64 0,.int .i64 0] [(0,1)]) [.const (.int .i64 2)], .o 7 .move [.T 1], .o 8 (.call 131) [.T 5,.T 6,.T 7],
 .o 4 .move [.T 8]] none []) .ret)) }

/-- (runrig/ir.view).of -/

def s130 : SFunc := { fid := 130,mode := .pure,nparams := 2,nboxes := 2,clr := [],results := [.box 4 1 3 true],body :=
 (.seq (.region [ .o 2 (.boxF 0 19) [.T 0], .o 4 (.allocF 1 [.int .i64 0,.int .i64 0,.int .i64 0]) []] none []) (.seq (.seq (.region [ .o 5 .move [.t 1],
 .o 6 (.bin .lss) [.T 5,.const (.int .i64 0)], .o 7 .move [.T 6], .z 8 .move [.t 1] 7, .z 9 (.fieldAddr 6) [.t 2] 7, .z 10 (.fieldAddr 1) [.T 9] 7,
 .z 11 (.loadF 0 false 1 false) [.T 10] 7, .z 12 (.len .sl) [.T 11] 7, .z 13 (.bin .geq) [.T 8,.T 12] 7,
 .o 14 .pick [.T 7,.const (.bool true),.T 13]] none [8,9,10,11,12]) (.cond (.T 14) [1,2] (.seq (.region [ .o 15 (.call 107) [],
 .n (.storeF 1 3) [.t 4,.T 15]] none []) .ret) [] .skip)) (.seq (.region [ .o 16 (.fieldAddr 6) [.T 2], .o 17 (.fieldAddr 1) [.T 16],
 .o 18 (.loadF 0 false 1 false) [.T 17], .o 19 .move [.T 1], .o 20 (.indexAddr 3) [.T 18,.T 19], .o 21 (.load true 3 false) [.T 20],
 .n (.storeF 1 3) [.t 4,.T 21]] none []) .ret))) }

/-- (runrig/ir.view).is -/
def s131_l0 : SCode :=
 (.seq (.region [ .o 12 (.bin .lss) [.t 11,.t 10]] none []) (.seq (.cond (.T 12) [] .skip [3,9,10,11] (.exit 0)) (.seq (.block 1 (.seq (.region [
 .o 13 (.indexAddr 1) [.t 9,.t 11], .o 14 (.load false 1 false) [.T 13], .o 8 .move [.T 14]] none []) (.seq (.region [ .o 15 (.loadF 0 true 19 false) [.t 3],
 .o 16 .move [.T 8], .o 17 (.call 130) [.T 15,.T 16], .o 18 (.loadF 1 true 3 false) [.t 4],
 .o 19 (.eqv (.flat [.int,.int,.int]) true) [.T 17,.T 18]] (some []) []) (.cond (.T 19) [3,4,9,10,11] (.seq (.region [
 .o 6 .move [.const (.bool false)]] none []) .ret) [] .skip)))) (.region [ .o 20 (.bin .add) [.T 11,.const (.int .i64 1)], .o 11 .move [.T 20]] none []))))
def s131 : SFunc := { fid := 131,mode := .pure,nparams := 3,nboxes := 2,clr := [],results := [.tmp 6 false],body :=
 (.seq (.region [ .o 3 (.boxF 0 19) [.T 0], .o 4 (.boxF 1 3) [.T 1], .o 6 .move [.const (.bool false)]] none [6]) (.seq (.seq (.region [ .o 9 .move [.T 2],
 .o 10 (.len .sl) [.t 9], .o 11 .move [.const (.int .i64 0)]] none []) (.block 0 (.loop s131_l0))) (.seq (.region [ .o 21 (.loadF 1 true 3 false) [.T 4],
 .o 22 (.call 107) [], .o 23 (.eqv (.flat [.int,.int,.int]) true) [.T 21,.T 22], .o 6 .move [.T 23]] (some []) []) .ret))) }

/-- (runrig/ir.view).two -/

def s132 : SFunc := { fid := 132,mode := .pure,nparams := 1,nboxes := 2,clr := [],results := [.tmp 2 false],body :=
 (.seq (.region [ .o 1 (.boxF 0 19) [.T 0], .o 2 .move [.const (.bool false)]] none [2]) (.seq (.region [ .o 4 (.fieldAddr 13) [.t 1],
 .o 5 (.loadF 0 true 6 false) [.T 4], .o 3 (.allocF 1 [.int .i64 0,.int .i64 0,.int .i64 0,.int .i64 0,.int .i64 0,.nilSl]) [],
 .n (.storeF 1 6) [.t 3,.T 5]] none []) (.seq (.seq (.region [ .o 6 (.fieldAddr 4) [.t 3], .o 7 (.loadF 1 false 1 false) [.T 6]] none []) (.block 0 (.seq (.seq
 (.region [ .o 9 (.bin .eql) [.t 7,.const (.int .i64 14)], .o 8 .move [.T 9]] none []) (.cond (.t 8) [] .skip [8] (.seq (.region [
 .o 10 (.bin .eql) [.t 7,.const (.int .i64 15)], .o 8 .move [.T 10]] none []) (.cond (.t 8) [] .skip [8] (.seq (.region [
 .o 11 (.bin .eql) [.t 7,.const (.int .i64 16)], .o 8 .move [.T 11]] none []) (.cond (.t 8) [] .skip [8] (.seq (.region [
 .o 12 (.bin .eql) [.t 7,.const (.int .i64 17)], .o 8 .move [.T 12]] none []) (.cond (.t 8) [] .skip [8] (.region [
 .o 13 (.bin .eql) [.t 7,.const (.int .i64 18)], .o 8 .move [.T 13]] none []))))))))) (.cond (.T 8) [7] (.seq (.region [ .o 14 (.loadF 0 true 19 false) [.T 1],
 .o 15 (.fieldAddr 1) [.t 3], .o 16 (.loadF 1 false 1 false) [.T 15], .o 17 (.fieldAddr 2) [.t 3], .o 18 (.loadF 1 false 1 false) [.T 17],
 .o 19 (.fieldAddr 3) [.T 3], .o 20 (.loadF 1 false 1 false) [.T 19], .o 21 (.lit 1 3 [.int .i64 0] [0,1,2]) [.T 16,.T 18,.T 20],
 .o 22 (.call 128) [.T 14,.T 21], .o 2 .move [.T 22]] none []) .ret) [] (.seq (.seq (.region [ .o 24 (.bin .eql) [.t 7,.const (.int .i64 19)],
 .o 23 .move [.T 24]] none []) (.cond (.t 23) [] .skip [23] (.region [ .o 25 (.bin .eql) [.t 7,.const (.int .i64 20)], .o 23 .move [.T 25]] none [])))
 (.cond (.T 23) [7] (.seq (.region [ .o 26 (.loadF 0 true 19 false) [.t 1], .o 27 (.fieldAddr 1) [.t 3], .o 28 (.loadF 1 false 1 false) [.T 27],
 .o 29 (.lit 1 1 [.int .i64 0] [0]) [.T 28], .o 30 (.call 129) [.T 26,.T 29], .o 31 .move [.T 30], .y 32 (.loadF 0 true 19 false) [.T 1] 31,
 .y 33 (.fieldAddr 2) [.t 3] 31, .y 34 (.loadF 1 false 1 false) [.T 33] 31, .y 35 (.fieldAddr 3) [.T 3] 31, .y 36 (.loadF 1 false 1 false) [.T 35] 31,
 .y 37 (.lit 1 2 [.int .i64 0] [0,1]) [.T 34,.T 36] 31, .y 38 (.call 128) [.T 32,.T 37] 31, .o 39 .pick [.T 31,.T 38,.const (.bool false)],
 .o 2 .move [.T 39]] none [1,3,32,33,34,35,36,37]) .ret) [] (.seq (.seq (.region [ .o 41 (.bin .eql) [.t 7,.const (.int .i64 21)],
 .o 40 .move [.T 41]] none []) (.cond (.t 40) [] .skip [40] (.region [ .o 42 (.bin .eql) [.t 7,.const (.int .i64 22)], .o 40 .move [.T 42]] none [])))
 (.cond (.T 40) [7] (.seq (.region [ .o 43 (.loadF 0 true 19 false) [.t 1], .o 44 (.fieldAddr 1) [.t 3], .o 45 (.loadF 1 false 1 false) [.T 44],
 .o 46 (.lit 1 1 [.int .i64 0] [0]) [.T 45], .o 47 (.call 129) [.T 43,.T 46], .o 48 .move [.T 47], .y 49 (.loadF 0 true 19 false) [.t 1] 48,
 .y 50 (.loadF 0 true 19 false) [.t 1] 48, .y 51 (.fieldAddr 2) [.t 3] 48, .y 52 (.loadF 1 false 1 false) [.T 51] 48, .y 53 (.call 130) [.T 50,.T 52] 48,
 .y 54 (.fieldAddr 3) [.t 3] 48, .y 55 (.loadF 1 false 1 false) [.T 54] 48, .y 56 (.lit 1 1 [.int .i64 0] [0]) [.T 55] 48,
 .y 57 (.call 131) [.T 49,.T 53,.T 56] 48, .o 58 .pick [.t 48,.T 57,.const (.bool false)], .o 2 .move [.T 58]] (some []) [1,3,48,49,50,51,52,53,54,55,56])
 .ret) [] (.seq (.seq (.region [ .o 60 (.bin .eql) [.t 7,.const (.int .i64 23)], .o 59 .move [.T 60]] none []) (.cond (.t 59) [7] .skip [59] (.region [
 .o 61 (.bin .eql) [.T 7,.const (.int .i64 24)], .o 59 .move [.T 61]] none []))) (.cond (.T 59) [] (.seq (.region [ .o 62 (.loadF 0 true 19 false) [.T 1],
 .o 63 (.fieldAddr 1) [.t 3], .o 64 (.loadF 1 false 1 false) [.T 63], .o 65 (.fieldAddr 2) [.t 3], .o 66 (.loadF 1 false 1 false) [.T 65],
 .o 67 (.fieldAddr 3) [.T 3], .o 68 (.loadF 1 false 1 false) [.T 67], .o 69 (.lit 1 3 [.int .i64 0] [0,1,2]) [.T 64,.T 66,.T 68],
 .o 70 (.call 129) [.T 62,.T 69], .o 2 .move [.T 70]] none []) .ret) [1,3] .skip)))))))))) (.seq (.region [ .o 2 .move [.const (.bool false)]] none [])
 .ret)))) }

/-- (runrig/ir.view).field -/

def s133 : SFunc := { fid := 133,mode := .pure,nparams := 4,nboxes := 2,clr := [],results := [.tmp 8 false],body :=
 (.seq (.region [ .o 4 (.boxF 0 19) [.T 0], .o 8 .move [.const (.bool false)]] none [8]) (.seq (.region [ .o 11 (.loadF 0 true 19 false) [.t 4],
 .o 12 .move [.T 1], .o 13 (.call 130) [.T 11,.T 12], .o 9 (.allocF 1 [.int .i64 0,.int .i64 0,.int .i64 0]) [], .n (.storeF 1 3) [.t 9,.T 13]] none []) (.seq
 (.seq (.region [ .o 14 (.fieldAddr 0) [.t 9], .o 15 (.loadF 1 false 1 false) [.T 14], .o 16 (.bin .neq) [.T 15,.const (.int .i64 3)], .o 17 .move [.T 16],
 .z 18 (.fieldAddr 2) [.t 9] 17, .z 19 (.loadF 1 false 1 false) [.T 18] 17, .z 20 (.bin .neq) [.T 19,.const (.int .i64 0)] 17,
 .o 21 .pick [.T 17,.const (.bool true),.T 20], .o 22 .move [.T 21], .z 23 (.fieldAddr 1) [.t 9] 22, .z 24 (.loadF 1 false 1 false) [.T 23] 22,
 .z 25 (.bin .lss) [.T 24,.const (.int .i64 0)] 22, .o 26 .pick [.T 22,.const (.bool true),.T 25], .o 27 .move [.T 26], .z 28 (.fieldAddr 1) [.t 9] 27,
 .z 29 (.loadF 1 false 1 false) [.T 28] 27, .z 30 (.fieldAddr 0) [.t 4] 27, .z 31 (.fieldAddr 0) [.T 30] 27, .z 32 (.loadF 0 false 1 false) [.T 31] 27,
 .z 33 (.len .sl) [.T 32] 27, .z 34 (.bin .geq) [.T 29,.T 33] 27, .o 35 .pick [.T 27,.const (.bool true),.T 34]] none [18,19,23,24,28,29,30,31,32,33])
 (.cond (.T 35) [2,3,4,9] (.seq (.region [ .o 8 .move [.const (.bool false)]] none []) .ret) [] .skip)) (.seq (.region [ .o 36 (.fieldAddr 0) [.t 4],
 .o 37 (.fieldAddr 0) [.T 36], .o 38 (.loadF 0 false 1 false) [.T 37], .o 39 (.fieldAddr 1) [.T 9], .o 40 (.loadF 1 false 1 false) [.T 39],
 .o 41 (.indexAddr 2) [.T 38,.T 40], .o 42 (.fieldAddr 1) [.T 41], .o 43 (.load false 1 false) [.T 42], .o 10 .move [.T 43]] none []) (.seq (.region [
 .o 44 .move [.t 2], .o 45 (.bin .geq) [.T 44,.const (.int .i64 0)], .o 46 .move [.T 45], .y 47 .move [.t 2] 46, .y 48 .move [.t 10] 46,
 .y 49 (.len .sl) [.T 48] 46, .y 50 (.bin .lss) [.T 47,.T 49] 46, .o 51 .pick [.t 46,.T 50,.const (.bool false)], .o 52 .move [.T 51],
 .y 53 (.loadF 0 true 19 false) [.T 4] 52, .y 54 .move [.t 10] 52, .y 55 .move [.t 2] 52, .y 56 (.indexAddr 4) [.T 54,.T 55] 52,
 .y 57 (.fieldAddr 1) [.T 56] 52, .y 58 (.load true 3 false) [.T 57] 52, .y 59 .move [.T 3] 52, .y 60 (.lit 1 1 [.int .i64 0] [0]) [.T 59] 52,
 .y 61 (.call 131) [.T 53,.T 58,.T 60] 52, .o 62 .pick [.t 52,.T 61,.const (.bool false)],
 .o 8 .move [.T 62]] (some []) [2,3,4,10,46,47,48,49,52,53,54,55,56,57,58,59,60]) .ret))))) }

/-- (runrig/ir.view).array -/

def s134 : SFunc := { fid := 134,mode := .pure,nparams := 3,nboxes := 2,clr := [],results := [.tmp 6 false],body :=
 (.seq (.region [ .o 3 (.boxF 0 19) [.T 0], .o 6 .move [.const (.bool false)]] none [6]) (.seq (.region [ .o 8 (.loadF 0 true 19 false) [.t 3],
 .o 9 .move [.T 1], .o 10 (.call 130) [.T 8,.T 9], .o 7 (.allocF 1 [.int .i64 0,.int .i64 0,.int .i64 0]) [], .n (.storeF 1 3) [.t 7,.T 10]] none []) (.seq
 (.seq (.region [ .o 11 (.fieldAddr 2) [.t 7], .o 12 (.loadF 1 false 1 false) [.T 11], .o 13 (.bin .leq) [.T 12,.const (.int .i64 0)]] none [])
 (.cond (.T 13) [2,3,7] (.seq (.region [ .o 6 .move [.const (.bool false)]] none []) .ret) [] .skip)) (.seq (.region [ .o 14 (.fieldAddr 2) [.t 7],
 .o 15 (.loadF 1 false 1 false) [.T 14], .o 16 (.bin .sub) [.T 15,.const (.int .i64 1)], .o 17 (.fieldAddr 2) [.t 7], .n (.storeF 1 1) [.T 17,.T 16]] none [])
 (.seq (.region [ .o 18 (.loadF 0 true 19 false) [.T 3], .o 19 (.loadF 1 true 3 false) [.T 7], .o 20 .move [.T 2], .o 21 (.lit 1 1 [.int .i64 0] [0]) [.T 20],
 .o 22 (.call 131) [.T 18,.T 19,.T 21], .o 6 .move [.T 22]] none []) .ret))))) }

/-- (runrig/ir.view).site -/

def s135 : SFunc := { fid := 135,mode := .pure,nparams := 3,nboxes := 1,clr := [],results := [.tmp 6 false],body :=
 (.seq (.region [ .o 3 (.boxF 0 19) [.T 0], .o 6 .move [.const (.bool false)]] none [6]) (.seq (.region [ .o 7 .move [.t 1],
 .o 8 (.bin .geq) [.T 7,.const (.int .i64 0)], .o 9 .move [.T 8], .y 10 .move [.t 1] 9, .y 11 (.fieldAddr 0) [.t 3] 9, .y 12 (.fieldAddr 3) [.T 11] 9,
 .y 13 (.loadF 0 false 1 false) [.T 12] 9, .y 14 (.len .sl) [.T 13] 9, .y 15 (.bin .lss) [.T 10,.T 14] 9, .o 16 .pick [.t 9,.T 15,.const (.bool false)],
 .o 17 .move [.T 16], .y 18 (.fieldAddr 0) [.t 3] 17, .y 19 (.fieldAddr 3) [.T 18] 17, .y 20 (.loadF 0 false 1 false) [.T 19] 17, .y 21 .move [.t 1] 17,
 .y 22 (.indexAddr 4) [.T 20,.T 21] 17, .y 23 (.fieldAddr 0) [.T 22] 17, .y 24 (.load false 1 false) [.T 23] 17, .y 25 (.fieldAddr 5) [.t 3] 17,
 .y 26 (.loadF 0 false 1 false) [.T 25] 17, .y 27 (.bin .eql) [.T 24,.T 26] 17, .o 28 .pick [.t 17,.T 27,.const (.bool false)], .o 29 .move [.T 28],
 .y 30 (.loadF 0 true 19 false) [.t 3] 29, .y 31 (.fieldAddr 0) [.t 3] 29, .y 32 (.fieldAddr 3) [.T 31] 29, .y 33 (.loadF 0 false 1 false) [.T 32] 29,
 .y 34 .move [.t 1] 29, .y 35 (.indexAddr 4) [.T 33,.T 34] 29, .y 36 (.fieldAddr 1) [.T 35] 29, .y 37 (.load true 3 false) [.T 36] 29, .y 38 .move [.T 2] 29,
 .y 39 (.lit 1 1 [.int .i64 0] [0]) [.T 38] 29, .y 40 (.call 131) [.T 30,.T 37,.T 39] 29, .o 41 .pick [.t 29,.T 40,.const (.bool false)],
 .o 6 .move [.T 41]] (some []) [1,2,3,9,10,11,12,13,14,17,18,19,20,21,22,23,24,25,26,29,30,31,32,33,34,35,36,37,38,39]) .ret)) }

/-- (runrig/ir.view).goes -/

def s136 : SFunc := { fid := 136,mode := .pure,nparams := 1,nboxes := 2,clr := [],results := [.tmp 2 false],body :=
 (.seq (.region [ .o 1 (.boxF 0 19) [.T 0], .o 2 .move [.const (.bool false)]] none [2]) (.seq (.region [ .o 4 (.fieldAddr 13) [.t 1],
 .o 5 (.loadF 0 true 6 false) [.T 4], .o 3 (.allocF 1 [.int .i64 0,.int .i64 0,.int .i64 0,.int .i64 0,.int .i64 0,.nilSl]) [],
 .n (.storeF 1 6) [.t 3,.T 5]] none []) (.seq (.seq (.region [ .o 6 (.fieldAddr 0) [.t 3], .o 7 (.loadF 1 false 1 false) [.T 6]] none []) (.block 0 (.seq
 (.region [ .o 9 (.bin .eql) [.t 7,.const (.int .i64 13)], .o 8 .move [.T 9]] none []) (.cond (.T 8) [3,7] (.seq (.region [
 .o 10 (.loadF 0 true 19 false) [.T 1], .o 11 (.call 140) [.T 10], .o 2 .move [.T 11]] none []) .ret) [] (.seq (.seq (.region [
 .o 13 (.bin .eql) [.t 7,.const (.int .i64 14)], .o 12 .move [.T 13]] none []) (.cond (.t 12) [] .skip [12] (.region [
 .o 14 (.bin .eql) [.t 7,.const (.int .i64 15)], .o 12 .move [.T 14]] none []))) (.cond (.T 12) [7] (.seq (.region [ .o 15 (.loadF 0 true 19 false) [.T 1],
 .o 16 (.fieldAddr 1) [.T 3], .o 17 (.loadF 1 false 1 false) [.T 16], .o 18 (.lit 1 1 [.int .i64 0] [0]) [.T 17], .o 19 (.call 128) [.T 15,.T 18],
 .o 2 .move [.T 19]] none []) .ret) [] (.seq (.region [ .o 21 (.bin .eql) [.t 7,.const (.int .i64 16)], .o 20 .move [.T 21]] none []) (.cond (.T 20) [7] (.seq
 (.region [ .o 22 (.loadF 0 true 19 false) [.T 1], .o 23 (.fieldAddr 4) [.T 3], .o 24 (.loadF 1 false 1 false) [.T 23], .o 25 (.call 141) [.T 22,.T 24],
 .o 2 .move [.T 25]] none []) .ret) [] (.seq (.region [ .o 27 (.bin .eql) [.t 7,.const (.int .i64 17)], .o 26 .move [.T 27]] none []) (.cond (.T 26) [7] (.seq
 (.region [ .o 28 (.loadF 0 true 19 false) [.t 1], .o 29 (.fieldAddr 1) [.t 3], .o 30 (.loadF 1 false 1 false) [.T 29],
 .o 31 (.lit 1 1 [.int .i64 0] [0]) [.T 30], .o 32 (.call 129) [.T 28,.T 31], .o 33 .move [.T 32], .y 34 (.loadF 0 true 19 false) [.t 1] 33,
 .y 35 (.fieldAddr 4) [.t 3] 33, .y 36 (.loadF 1 false 1 false) [.T 35] 33, .y 37 (.call 141) [.T 34,.T 36] 33, .o 38 .pick [.T 33,.T 37,.const (.bool false)],
 .o 39 .move [.T 38], .y 40 (.loadF 0 true 19 false) [.T 1] 39, .y 41 (.fieldAddr 3) [.T 3] 39, .y 42 (.loadF 1 false 1 false) [.T 41] 39,
 .y 43 (.call 141) [.T 40,.T 42] 39, .o 44 .pick [.T 39,.T 43,.const (.bool false)], .o 2 .move [.T 44]] none [1,3,34,35,36,40,41,42]) .ret) [] (.seq
 (.region [ .o 46 (.bin .eql) [.T 7,.const (.int .i64 18)], .o 45 .move [.T 46]] none []) (.cond (.T 45) [] (.seq (.region [ .o 47 (.fieldAddr 6) [.t 1],
 .o 48 (.fieldAddr 2) [.T 47], .o 49 (.loadF 0 false 1 false) [.T 48], .o 50 .move [.T 49], .y 51 (.loadF 0 true 19 false) [.t 1] 50,
 .y 52 (.fieldAddr 6) [.t 1] 50, .y 53 (.fieldAddr 3) [.T 52] 50, .y 54 (.loadF 0 true 3 false) [.T 53] 50, .y 55 (.fieldAddr 1) [.t 3] 50,
 .y 56 (.loadF 1 false 1 false) [.T 55] 50, .y 57 (.lit 1 1 [.int .i64 0] [0]) [.T 56] 50, .y 58 (.call 131) [.T 51,.T 54,.T 57] 50,
 .o 59 .pick [.T 50,.T 58,.const (.bool false)], .o 60 .move [.T 59], .z 61 (.fieldAddr 6) [.T 1] 60, .z 62 (.fieldAddr 2) [.T 61] 60,
 .z 63 (.loadF 0 false 1 false) [.T 62] 60, .z 64 (.un .not) [.T 63] 60, .z 65 .move [.T 64] 60, .y 66 (.fieldAddr 1) [.T 3] 65,
 .y 67 (.loadF 1 false 1 false) [.T 66] 65, .y 68 (.bin .eql) [.T 67,.const (.int .i64 (-1))] 65, .z 69 .pick [.T 65,.T 68,.const (.bool false)] 60,
 .o 70 .pick [.T 60,.const (.bool true),.T 69], .o 2 .move [.T 70]] none [1,3,51,52,53,54,55,56,57,61,62,63,64,65,66,67,68]) .ret) [] .skip)))))))))))) (.seq
 (.region [ .o 71 (.loadF 0 true 19 false) [.T 1], .o 72 (.fieldAddr 4) [.t 3], .o 73 (.loadF 1 false 1 false) [.T 72], .o 74 (.fieldAddr 1) [.T 3],
 .o 75 (.loadF 1 false 1 false) [.T 74], .o 76 (.call 142) [.T 71,.T 73,.T 75], .o 2 .move [.T 76]] none []) .ret)))) }

/-- (*runrig/runrigref3.reader).behind -/
def s137_l0 : SCode :=
 (.seq (.seq (.region [ .o 7 .move [.t 0], .o 8 (.call 34) [.T 7,.const (.str [46])], .o 9 .move [.T 8], .z 10 .move [.t 0] 9,
 .z 11 (.call 34) [.T 10,.const (.str [91])] 9, .o 12 .pick [.T 9,.const (.bool true),.T 11]] none [10]) (.cond (.T 12) [] .skip [0] (.exit 0))) (.block 1
 (.seq (.region [ .o 13 .move [.t 0], .o 14 (.call 33) [.T 13], .o 5 (.allocF 2 [.int .i64 0,.str [],.int .i64 0,.int .i64 0]) [],
 .n (.storeF 2 4) [.t 5,.T 14]] none []) (.seq (.seq (.region [ .o 15 .move [.t 0], .o 16 (.call 34) [.T 15,.const (.str [46])]] none []) (.cond (.T 16) []
 (.seq (.region [ .o 17 .move [.t 0], .o 18 .nilCheck [.t 17], .o 19 (.fieldAddr 1) [.T 18], .o 20 (.load false 1 false) [.T 19],
 .o 21 (.bin .add) [.T 20,.const (.int .i64 1)], .o 22 .nilCheck [.T 17], .o 23 (.fieldAddr 1) [.T 22], .n (.store 1) [.T 23,.T 21]] none []) (.seq (.region [
 .o 24 .move [.t 0], .o 25 (.call 66) [.T 24], .o 26 (.loadF 0 true 11 false) [.t 3],
 .o 27 (.lit 11 1 [.int .i64 0,.int .i64 0,.str [],.str [],.int .i64 0,.nilSl,.int .i64 0,.int .i64 0,.int .i64 0,.int .i64 0,.int .i64 0] [0]) [.T 26],
 .o 28 (.fieldAddr 3) [.T 5], .o 29 (.loadF 2 false 1 false) [.T 28],
 .o 30 (.build [.int .i64 0,.int .i64 0,.str [],.str [],.int .i64 0,.nilSl,.int .i64 0,.int .i64 0,.int .i64 0,.int .i64 0,.int .i64 0] [(0,1),(2,1),(5,1),(6,1)]) [.const (.int .i64 5),.T 25,.T 27,.T 29],
 .n (.storeF 0 11) [.t 3,.T 30]] (some []) []) (.exit 1))) [] .skip)) (.seq (.region [ .o 31 .move [.t 0],
 .o 32 (.call 96) [.T 31,.const (.str [91])]] none [32]) (.seq (.region [ .o 33 .move [.t 0], .o 34 (.call 110) [.T 33,.const (.int .i64 0)],
 .o 6 (.allocF 3 [.int .i64 0,.int .i64 0,.str [],.str [],.int .i64 0,.nilSl,.int .i64 0,.int .i64 0,.int .i64 0,.int .i64 0,.int .i64 0]) [],
 .n (.storeF 3 11) [.t 6,.T 34]] none []) (.seq (.region [ .o 35 .move [.t 0], .o 36 (.call 98) [.T 35,.const (.str [93])]] none [36]) (.region [
 .o 37 (.loadF 0 true 11 false) [.t 3], .o 38 (.loadF 3 true 11 false) [.T 6],
 .o 39 (.lit 11 2 [.int .i64 0,.int .i64 0,.str [],.str [],.int .i64 0,.nilSl,.int .i64 0,.int .i64 0,.int .i64 0,.int .i64 0,.int .i64 0] [0,1]) [.T 37,.T 38],
 .o 40 (.fieldAddr 3) [.T 5], .o 41 (.loadF 2 false 1 false) [.T 40],
 .o 42 (.build [.int .i64 0,.int .i64 0,.str [],.str [],.int .i64 0,.nilSl,.int .i64 0,.int .i64 0,.int .i64 0,.int .i64 0,.int .i64 0] [(0,1),(5,1),(6,1)]) [.const (.int .i64 6),.T 39,.T 41],
 .n (.storeF 0 11) [.t 3,.T 42]] none []))))))))
def s137 : SFunc := { fid := 137,mode := .scp,nparams := 2,nboxes := 4,clr := [],results := [.box 4 1 11 true],body :=
 (.seq (.region [ .o 3 (.boxF 0 11) [.T 1],
 .o 4 (.allocF 1 [.int .i64 0,.int .i64 0,.str [],.str [],.int .i64 0,.nilSl,.int .i64 0,.int .i64 0,.int .i64 0,.int .i64 0,.int .i64 0]) []] none []) (.seq
 (.block 0 (.loop s137_l0)) (.seq (.region [ .o 43 (.loadF 0 true 11 false) [.T 3], .n (.storeF 1 11) [.t 4,.T 43]] none []) .ret))) }

/-- (*runrig/runrigref3.reader).first -/

def s138 : SFunc := { fid := 138,mode := .scp,nparams := 1,nboxes := 2,clr := [],results := [.box 2 0 11 true],body :=
 (.seq (.region [
 .o 2 (.allocF 0 [.int .i64 0,.int .i64 0,.str [],.str [],.int .i64 0,.nilSl,.int .i64 0,.int .i64 0,.int .i64 0,.int .i64 0,.int .i64 0]) []] none []) (.seq
 (.region [ .o 6 .move [.t 0], .o 7 (.call 33) [.T 6], .o 3 (.allocF 1 [.int .i64 0,.str [],.int .i64 0,.int .i64 0]) [],
 .n (.storeF 1 4) [.t 3,.T 7]] none []) (.seq (.block 0 (.seq (.region [ .o 9 .move [.t 0], .o 10 (.call 32) [.T 9], .o 11 .move [.T 10],
 .y 12 (.fieldAddr 0) [.t 3] 11, .y 13 (.loadF 1 false 1 false) [.T 12] 11, .y 14 (.bin .eql) [.T 13,.const (.int .i64 2)] 11,
 .o 15 .pick [.T 11,.T 14,.const (.bool false)], .o 8 .move [.T 15]] none [12,13]) (.cond (.T 8) [] (.seq (.region [ .o 16 .move [.T 0],
 .o 17 .nilCheck [.t 16], .o 18 (.fieldAddr 1) [.T 17], .o 19 (.load false 1 false) [.T 18], .o 20 (.bin .add) [.T 19,.const (.int .i64 1)],
 .o 21 .nilCheck [.T 16], .o 22 (.fieldAddr 1) [.T 21], .n (.store 1) [.T 22,.T 20]] none []) (.seq (.region [ .o 23 (.fieldAddr 2) [.t 3],
 .o 24 (.loadF 1 false 1 false) [.T 23], .o 25 (.fieldAddr 3) [.T 3], .o 26 (.loadF 1 false 1 false) [.T 25],
 .o 27 (.build [.int .i64 0,.int .i64 0,.str [],.str [],.int .i64 0,.nilSl,.int .i64 0,.int .i64 0,.int .i64 0,.int .i64 0,.int .i64 0] [(0,1),(1,1),(6,1)]) [.const (.int .i64 1),.T 24,.T 26],
 .n (.storeF 0 11) [.t 2,.T 27]] none []) .ret)) [] (.seq (.seq (.region [ .o 29 .move [.t 0], .o 30 (.call 34) [.T 29,.const (.str [116,114,117,101])],
 .o 28 .move [.T 30]] none []) (.cond (.t 28) [] .skip [28] (.region [ .o 31 .move [.t 0], .o 32 (.call 34) [.T 31,.const (.str [102,97,108,115,101])],
 .o 28 .move [.T 32]] none []))) (.cond (.T 28) [] (.seq (.region [ .o 33 .move [.T 0], .o 34 .nilCheck [.t 33], .o 35 (.fieldAddr 1) [.T 34],
 .o 36 (.load false 1 false) [.T 35], .o 37 (.bin .add) [.T 36,.const (.int .i64 1)], .o 38 .nilCheck [.T 33], .o 39 (.fieldAddr 1) [.T 38],
 .n (.store 1) [.T 39,.T 37]] none []) (.seq (.region [ .o 4 .move [.const (.int .i64 0)]] none []) (.seq (.seq (.region [ .o 40 (.fieldAddr 1) [.t 3],
 .o 41 (.loadF 1 false 1 false) [.T 40], .o 42 (.bin .eql) [.T 41,.const (.str [116,114,117,101])]] none []) (.cond (.T 42) [4] (.region [
 .o 4 .move [.const (.int .i64 1)]] none []) [] .skip)) (.seq (.region [ .o 43 .move [.T 4], .o 44 (.fieldAddr 3) [.T 3],
 .o 45 (.loadF 1 false 1 false) [.T 44],
 .o 46 (.build [.int .i64 0,.int .i64 0,.str [],.str [],.int .i64 0,.nilSl,.int .i64 0,.int .i64 0,.int .i64 0,.int .i64 0,.int .i64 0] [(0,1),(1,1),(6,1)]) [.const (.int .i64 2),.T 43,.T 45],
 .n (.storeF 0 11) [.t 2,.T 46]] none []) .ret)))) [] (.seq (.region [ .o 48 .move [.t 0], .o 49 (.call 34) [.T 48,.const (.str [110,117,108,108])],
 .o 47 .move [.T 49]] none []) (.cond (.T 47) [] (.seq (.region [ .o 50 .move [.t 0], .o 51 .nilCheck [.t 50], .o 52 (.fieldAddr 1) [.T 51],
 .o 53 (.load false 1 false) [.T 52], .o 54 (.bin .add) [.T 53,.const (.int .i64 1)], .o 55 .nilCheck [.T 50], .o 56 (.fieldAddr 1) [.T 55],
 .n (.store 1) [.T 56,.T 54]] none []) (.seq (.region [ .o 57 .move [.T 0], .o 58 (.call 67) [.T 57], .o 59 (.fieldAddr 3) [.T 3],
 .o 60 (.loadF 1 false 1 false) [.T 59],
 .o 61 (.build [.int .i64 0,.int .i64 0,.str [],.str [],.int .i64 0,.nilSl,.int .i64 0,.int .i64 0,.int .i64 0,.int .i64 0,.int .i64 0] [(0,1),(3,2),(6,1)]) [.const (.int .i64 3),.T 58,.T 60],
 .n (.storeF 0 11) [.t 2,.T 61]] (some []) []) .ret)) [] (.seq (.region [ .o 63 .move [.t 0], .o 64 (.call 34) [.T 63,.const (.str [110,101,119])],
 .o 62 .move [.T 64]] none []) (.cond (.T 62) [] (.seq (.region [ .o 65 .move [.t 0], .o 66 .nilCheck [.t 65], .o 67 (.fieldAddr 1) [.T 66],
 .o 68 (.load false 1 false) [.T 67], .o 69 (.bin .add) [.T 68,.const (.int .i64 1)], .o 70 .nilCheck [.T 65], .o 71 (.fieldAddr 1) [.T 70],
 .n (.store 1) [.T 71,.T 69]] none []) (.seq (.region [ .o 72 .move [.T 0], .o 73 (.fieldAddr 3) [.T 3], .o 74 (.loadF 1 false 1 false) [.T 73],
 .o 75 (.call 143) [.T 72,.T 74], .n (.storeF 0 11) [.t 2,.T 75]] none []) .ret)) [] (.seq (.region [ .o 77 .move [.t 0],
 .o 78 (.call 34) [.T 77,.const (.str [108,101,110])], .o 76 .move [.T 78]] none []) (.cond (.T 76) [] (.seq (.region [ .o 79 .move [.t 0],
 .o 80 .nilCheck [.t 79], .o 81 (.fieldAddr 1) [.T 80], .o 82 (.load false 1 false) [.T 81], .o 83 (.bin .add) [.T 82,.const (.int .i64 1)],
 .o 84 .nilCheck [.T 79], .o 85 (.fieldAddr 1) [.T 84], .n (.store 1) [.T 85,.T 83]] none []) (.seq (.region [ .o 86 .move [.T 0], .o 87 (.call 144) [.T 86],
 .o 88 (.lit 11 1 [.int .i64 0,.int .i64 0,.str [],.str [],.int .i64 0,.nilSl,.int .i64 0,.int .i64 0,.int .i64 0,.int .i64 0,.int .i64 0] [0]) [.T 87],
 .o 89 (.fieldAddr 3) [.T 3], .o 90 (.loadF 1 false 1 false) [.T 89],
 .o 91 (.build [.int .i64 0,.int .i64 0,.str [],.str [],.int .i64 0,.nilSl,.int .i64 0,.int .i64 0,.int .i64 0,.int .i64 0,.int .i64 0] [(0,1),(5,1),(6,1)]) [.const (.int .i64 10),.T 88,.T 90],
 .n (.storeF 0 11) [.t 2,.T 91]] (some []) []) .ret)) [] (.seq (.region [ .o 93 .move [.t 0], .o 94 (.call 34) [.T 93,.const (.str [114,101,97,100])],
 .o 92 .move [.T 94]] none []) (.cond (.T 92) [] (.seq (.region [ .o 95 .move [.t 0], .o 96 .nilCheck [.t 95], .o 97 (.fieldAddr 1) [.T 96],
 .o 98 (.load false 1 false) [.T 97], .o 99 (.bin .add) [.T 98,.const (.int .i64 1)], .o 100 .nilCheck [.T 95], .o 101 (.fieldAddr 1) [.T 100],
 .n (.store 1) [.T 101,.T 99]] none []) (.seq (.region [ .o 102 .move [.t 0], .o 103 (.call 96) [.T 102,.const (.str [40])]] none [103]) (.seq (.region [
 .o 104 .move [.T 0], .o 105 (.call 98) [.T 104,.const (.str [41])]] none [105]) (.seq (.region [ .o 106 (.fieldAddr 3) [.T 3],
 .o 107 (.loadF 1 false 1 false) [.T 106],
 .o 108 (.build [.int .i64 0,.int .i64 0,.str [],.str [],.int .i64 0,.nilSl,.int .i64 0,.int .i64 0,.int .i64 0,.int .i64 0,.int .i64 0] [(0,1),(6,1)]) [.const (.int .i64 11),.T 107],
 .n (.storeF 0 11) [.t 2,.T 108]] none []) .ret)))) [] (.seq (.region [ .o 110 .move [.t 0], .o 111 (.call 34) [.T 110,.const (.str [40])],
 .o 109 .move [.T 111]] none []) (.cond (.T 109) [3] (.seq (.region [ .o 112 .move [.T 0], .o 113 (.call 144) [.T 112],
 .n (.storeF 0 11) [.t 2,.T 113]] none []) .ret) [] .skip))))))))))))))) (.seq (.region [ .o 114 .move [.t 0], .o 115 (.call 66) [.T 114],
 .o 5 .move [.T 115]] none []) (.seq (.seq (.region [ .o 116 .move [.t 0], .o 117 (.call 34) [.T 116,.const (.str [40])], .o 118 (.un .not) [.T 117]] none [])
 (.cond (.T 118) [0] (.seq (.region [ .o 119 .move [.T 5], .o 120 (.fieldAddr 3) [.T 3], .o 121 (.loadF 1 false 1 false) [.T 120],
 .o 122 (.build [.int .i64 0,.int .i64 0,.str [],.str [],.int .i64 0,.nilSl,.int .i64 0,.int .i64 0,.int .i64 0,.int .i64 0,.int .i64 0] [(0,1),(2,1),(6,1)]) [.const (.int .i64 4),.T 119,.T 121],
 .n (.storeF 0 11) [.t 2,.T 122]] none []) .ret) [] .skip)) (.seq (.region [ .o 123 .move [.T 5], .o 124 .move [.T 0], .o 125 (.call 145) [.T 124],
 .o 126 (.fieldAddr 3) [.T 3], .o 127 (.loadF 1 false 1 false) [.T 126],
 .o 128 (.build [.int .i64 0,.int .i64 0,.str [],.str [],.int .i64 0,.nilSl,.int .i64 0,.int .i64 0,.int .i64 0,.int .i64 0,.int .i64 0] [(0,1),(2,1),(5,1),(6,1)]) [.const (.int .i64 7),.T 123,.T 125,.T 127],
 .n (.storeF 0 11) [.t 2,.T 128]] (some []) []) .ret)))))) }

/-- (*runrig/runrigref7.checker).call -/
def s139_l0 : SCode :=
 (.seq (.seq (.region [ .o 47 .move [.t 9], .o 48 .move [.t 2], .o 49 .nilCheck [.T 48], .o 50 (.fieldAddr 5) [.T 49], .o 51 (.load false 1 false) [.T 50],
 .o 52 (.len .sl) [.T 51], .o 53 (.bin .lss) [.T 47,.T 52]] none []) (.cond (.T 53) [] .skip [9] (.exit 2))) (.seq (.block 3 (.seq (.region [
 .o 56 .move [.t 2], .o 57 .nilCheck [.T 56], .o 58 (.fieldAddr 5) [.T 57], .o 59 (.load false 1 false) [.T 58], .o 60 .move [.t 9],
 .o 61 (.indexAddr 11) [.T 59,.T 60], .o 62 (.fieldAddr 7) [.T 61], .o 63 (.load true 3 false) [.T 62], .o 64 (.fieldAddr 1) [.t 8],
 .o 65 (.loadF 1 false 1 false) [.T 64], .o 66 .move [.t 9], .o 67 (.indexAddr 4) [.T 65,.T 66], .o 68 (.fieldAddr 1) [.T 67],
 .o 69 (.load true 3 false) [.T 68], .o 70 (.eqv (.flat [.int,.int,.int]) true) [.T 63,.T 69]] (some []) []) (.cond (.T 70) [2,7,8,9] (.seq (.region [
 .o 6 .move [.const (.bool false)]] none []) .ret) [] .skip))) (.region [ .o 54 .move [.T 9], .o 55 (.bin .add) [.T 54,.const (.int .i64 1)],
 .o 9 .move [.T 55]] none [])))
def s139_l1 : SCode :=
 (.seq (.seq (.region [ .o 15 .move [.t 7], .o 16 .move [.t 0], .o 17 .nilCheck [.T 16], .o 18 (.fieldAddr 0) [.T 17], .o 19 (.fieldAddr 2) [.T 18],
 .o 20 (.load false 1 false) [.T 19], .o 21 (.len .sl) [.T 20], .o 22 (.bin .lss) [.T 15,.T 21]] none []) (.cond (.T 22) [] .skip [0,2,4,7] (.exit 0))) (.seq
 (.block 1 (.seq (.region [ .o 25 .move [.t 0], .o 26 .nilCheck [.T 25], .o 27 (.fieldAddr 0) [.T 26], .o 28 (.fieldAddr 2) [.T 27],
 .o 29 (.load false 1 false) [.T 28], .o 30 .move [.t 7], .o 31 (.indexAddr 6) [.T 29,.T 30], .o 32 (.load true 6 false) [.T 31],
 .o 8 (.allocF 1 [.str [],.nilSl,.bool false,.int .i64 0,.int .i64 0,.int .i64 0]) [], .n (.storeF 1 6) [.t 8,.T 32]] none []) (.seq (.seq (.region [
 .o 33 (.fieldAddr 0) [.t 8], .o 34 (.loadF 1 false 1 false) [.T 33], .o 35 (.fieldAddr 2) [.t 4], .o 36 (.loadF 0 false 1 false) [.T 35],
 .o 37 (.bin .neq) [.T 34,.T 36]] none []) (.cond (.T 37) [8] (.exit 1) [0,4] .skip)) (.seq (.seq (.region [ .o 38 (.fieldAddr 1) [.t 8],
 .o 39 (.loadF 1 false 1 false) [.T 38], .o 40 (.len .sl) [.T 39], .o 41 .move [.t 2], .o 42 .nilCheck [.T 41], .o 43 (.fieldAddr 5) [.T 42],
 .o 44 (.load false 1 false) [.T 43], .o 45 (.len .sl) [.T 44], .o 46 (.bin .neq) [.T 40,.T 45]] (some []) []) (.cond (.T 46) [2,7,8] (.seq (.region [
 .o 6 .move [.const (.bool false)]] none []) .ret) [] .skip)) (.seq (.seq (.region [ .o 9 .move [.const (.int .i64 0)]] none []) (.block 2 (.loop s139_l0)))
 (.seq (.region [ .o 71 .move [.t 2], .o 72 .move [.T 7], .o 73 .nilCheck [.T 71], .o 74 (.fieldAddr 10) [.T 73], .n (.store 1) [.T 74,.T 72]] none []) (.seq
 (.region [ .o 75 .move [.T 2], .o 76 (.fieldAddr 3) [.T 8], .o 77 (.loadF 1 true 3 false) [.T 76], .o 78 .nilCheck [.T 75], .o 79 (.fieldAddr 7) [.T 78],
 .n (.store 3) [.T 79,.T 77]] none []) (.seq (.region [ .o 6 .move [.const (.bool true)]] none []) .ret)))))))) (.region [ .o 23 .move [.T 7],
 .o 24 (.bin .add) [.T 23,.const (.int .i64 1)], .o 7 .move [.T 24]] none [])))
def s139 : SFunc := { fid := 139,mode := .scp,nparams := 3,nboxes := 2,clr := [],results := [.tmp 6 false],body :=
 (.seq (.region [ .o 4 (.boxF 0 11) [.T 1], .o 6 .move [.const (.bool false)]] none [6]) (.seq (.region [ .o 10 .move [.t 2], .o 11 (.fieldAddr 2) [.t 4],
 .o 12 (.loadF 0 false 1 false) [.T 11], .o 13 .nilCheck [.T 10], .o 14 (.fieldAddr 2) [.T 13], .n (.store 1) [.T 14,.T 12]] none []) (.seq (.seq (.region [
 .o 7 .move [.const (.int .i64 0)]] none []) (.block 0 (.loop s139_l1))) (.seq (.region [ .o 6 .move [.const (.bool false)]] none []) .ret)))) }

/-- (runrig/ir.view).call -/
def s140_l0 : SCode :=
 (.seq (.region [ .o 46 (.bin .lss) [.t 45,.t 44]] none []) (.seq (.cond (.T 46) [] .skip [43,44,45] (.exit 0)) (.seq (.block 1 (.seq (.region [
 .o 47 .move [.t 45], .o 48 (.indexAddr 1) [.t 43,.t 45], .o 49 (.load false 1 false) [.T 48], .o 5 .move [.T 47], .o 6 .move [.T 49]] none []) (.seq
 (.region [ .o 50 (.loadF 0 true 19 false) [.t 1], .o 51 (.fieldAddr 1) [.t 4], .o 52 (.loadF 2 false 1 false) [.T 51], .o 53 .move [.T 5],
 .o 54 (.indexAddr 3) [.T 52,.T 53], .o 55 (.load true 3 false) [.T 54], .o 56 .move [.T 6], .o 57 (.lit 1 1 [.int .i64 0] [0]) [.T 56],
 .o 58 (.call 131) [.T 50,.T 55,.T 57], .o 59 (.un .not) [.T 58]] (some []) []) (.cond (.T 59) [1,3,4,43,44,45] (.seq (.region [
 .o 2 .move [.const (.bool false)]] none []) .ret) [] .skip)))) (.region [ .o 60 (.bin .add) [.T 45,.const (.int .i64 1)], .o 45 .move [.T 60]] none []))))
def s140 : SFunc := { fid := 140,mode := .pure,nparams := 1,nboxes := 3,clr := [],results := [.tmp 2 false],body :=
 (.seq (.region [ .o 1 (.boxF 0 19) [.T 0], .o 2 .move [.const (.bool false)]] none [2]) (.seq (.region [ .o 7 (.fieldAddr 13) [.t 1],
 .o 8 (.loadF 0 true 6 false) [.T 7], .o 3 (.allocF 1 [.int .i64 0,.int .i64 0,.int .i64 0,.int .i64 0,.int .i64 0,.nilSl]) [],
 .n (.storeF 1 6) [.t 3,.T 8]] none []) (.seq (.seq (.region [ .o 9 (.fieldAddr 3) [.t 3], .o 10 (.loadF 1 false 1 false) [.T 9],
 .o 11 (.bin .lss) [.T 10,.const (.int .i64 0)], .o 12 .move [.T 11], .z 13 (.fieldAddr 3) [.t 3] 12, .z 14 (.loadF 1 false 1 false) [.T 13] 12,
 .z 15 (.fieldAddr 0) [.t 1] 12, .z 16 (.fieldAddr 2) [.T 15] 12, .z 17 (.loadF 0 false 1 false) [.T 16] 12, .z 18 (.len .sl) [.T 17] 12,
 .z 19 (.bin .geq) [.T 14,.T 18] 12, .o 20 .pick [.T 12,.const (.bool true),.T 19]] none [13,14,15,16,17,18]) (.cond (.T 20) [1,3] (.seq (.region [
 .o 2 .move [.const (.bool false)]] none []) .ret) [] .skip)) (.seq (.region [ .o 21 (.fieldAddr 0) [.t 1], .o 22 (.fieldAddr 2) [.T 21],
 .o 23 (.loadF 0 false 1 false) [.T 22], .o 24 (.fieldAddr 3) [.t 3], .o 25 (.loadF 1 false 1 false) [.T 24], .o 26 (.indexAddr 7) [.T 23,.T 25],
 .o 27 (.load true 7 false) [.T 26], .o 4 (.allocF 2 [.int .i64 0,.nilSl,.bool false,.int .i64 0,.int .i64 0,.int .i64 0,.nilSl]) [],
 .n (.storeF 2 7) [.t 4,.T 27]] none []) (.seq (.seq (.region [ .o 28 (.fieldAddr 5) [.t 3], .o 29 (.loadF 1 false 1 false) [.T 28], .o 30 (.len .sl) [.T 29],
 .o 31 (.fieldAddr 0) [.t 4], .o 32 (.loadF 2 false 1 false) [.T 31], .o 33 (.bin .neq) [.T 30,.T 32], .o 34 .move [.T 33], .z 35 (.fieldAddr 0) [.t 4] 34,
 .z 36 (.loadF 2 false 1 false) [.T 35] 34, .z 37 (.fieldAddr 1) [.t 4] 34, .z 38 (.loadF 2 false 1 false) [.T 37] 34, .z 39 (.len .sl) [.T 38] 34,
 .z 40 (.bin .gtr) [.T 36,.T 39] 34, .o 41 .pick [.T 34,.const (.bool true),.T 40]] none [35,36,37,38,39]) (.cond (.T 41) [1,3,4] (.seq (.region [
 .o 2 .move [.const (.bool false)]] none []) .ret) [] .skip)) (.seq (.seq (.region [ .o 42 (.fieldAddr 5) [.t 3], .o 43 (.loadF 1 false 1 false) [.T 42],
 .o 44 (.len .sl) [.t 43], .o 45 .move [.const (.int .i64 0)]] none []) (.block 0 (.loop s140_l0))) (.seq (.region [ .o 61 (.fieldAddr 1) [.t 3],
 .o 62 (.loadF 1 false 1 false) [.T 61], .o 63 (.bin .eql) [.T 62,.const (.int .i64 (-1))], .o 64 .move [.T 63], .z 65 (.fieldAddr 2) [.t 4] 64,
 .z 66 (.loadF 2 false 1 false) [.T 65] 64, .z 67 .move [.T 66] 64, .y 68 (.loadF 0 true 19 false) [.T 1] 67, .y 69 (.fieldAddr 3) [.T 4] 67,
 .y 70 (.loadF 2 true 3 false) [.T 69] 67, .y 71 (.fieldAddr 1) [.T 3] 67, .y 72 (.loadF 1 false 1 false) [.T 71] 67,
 .y 73 (.lit 1 1 [.int .i64 0] [0]) [.T 72] 67, .y 74 (.call 131) [.T 68,.T 70,.T 73] 67, .z 75 .pick [.T 67,.T 74,.const (.bool false)] 64,
 .o 76 .pick [.T 64,.const (.bool true),.T 75], .o 2 .move [.T 76]] none [1,3,4,65,66,67,68,69,70,71,72,73,74]) .ret))))))) }

/-- (runrig/ir.view).place -/

def s141 : SFunc := { fid := 141,mode := .pure,nparams := 2,nboxes := 1,clr := [],results := [.tmp 4 false],body :=
 (.seq (.region [ .o 2 (.boxF 0 19) [.T 0], .o 4 .move [.const (.bool false)]] none [4]) (.seq (.region [ .o 5 .move [.t 1],
 .o 6 (.bin .geq) [.T 5,.const (.int .i64 0)], .o 7 .move [.T 6], .y 8 .move [.T 1] 7, .y 9 (.fieldAddr 6) [.T 2] 7, .y 10 (.fieldAddr 6) [.T 9] 7,
 .y 11 (.loadF 0 false 1 false) [.T 10] 7, .y 12 (.len .sl) [.T 11] 7, .y 13 (.bin .lss) [.T 8,.T 12] 7, .o 14 .pick [.T 7,.T 13,.const (.bool false)],
 .o 4 .move [.T 14]] none [1,2,8,9,10,11,12]) .ret)) }

/-- (runrig/ir.view).global -/

def s142 : SFunc := { fid := 142,mode := .pure,nparams := 3,nboxes := 1,clr := [],results := [.tmp 6 false],body :=
 (.seq (.region [ .o 3 (.boxF 0 19) [.T 0], .o 6 .move [.const (.bool false)]] none [6]) (.seq (.region [ .o 7 .move [.t 1],
 .o 8 (.bin .geq) [.T 7,.const (.int .i64 0)], .o 9 .move [.T 8], .y 10 .move [.t 1] 9, .y 11 (.fieldAddr 0) [.t 3] 9, .y 12 (.fieldAddr 1) [.T 11] 9,
 .y 13 (.loadF 0 false 1 false) [.T 12] 9, .y 14 (.len .sl) [.T 13] 9, .y 15 (.bin .lss) [.T 10,.T 14] 9, .o 16 .pick [.t 9,.T 15,.const (.bool false)],
 .o 17 .move [.T 16], .y 18 (.loadF 0 true 19 false) [.t 3] 17, .y 19 (.fieldAddr 0) [.t 3] 17, .y 20 (.fieldAddr 1) [.T 19] 17,
 .y 21 (.loadF 0 false 1 false) [.T 20] 17, .y 22 .move [.t 1] 17, .y 23 (.indexAddr 3) [.T 21,.T 22] 17, .y 24 (.load true 3 false) [.T 23] 17,
 .y 25 .move [.T 2] 17, .y 26 (.lit 1 1 [.int .i64 0] [0]) [.T 25] 17, .y 27 (.call 131) [.T 18,.T 24,.T 26] 17,
 .o 28 .pick [.t 17,.T 27,.const (.bool false)], .o 6 .move [.T 28]] (some []) [1,2,3,9,10,11,12,13,14,17,18,19,20,21,22,23,24,25,26]) .ret)) }

/-- (*runrig/runrigref3.reader).fresh -/

def s143 : SFunc := { fid := 143,mode := .scp,nparams := 2,nboxes := 2,clr := [],results := [.box 4 0 11 true],body :=
 (.seq (.region [
 .o 4 (.allocF 0 [.int .i64 0,.int .i64 0,.str [],.str [],.int .i64 0,.nilSl,.int .i64 0,.int .i64 0,.int .i64 0,.int .i64 0,.int .i64 0]) []] none []) (.seq
 (.seq (.region [ .o 6 .move [.t 0], .o 7 (.call 34) [.T 6,.const (.str [91])], .o 8 (.un .not) [.T 7]] none []) (.cond (.T 8) [] (.seq (.region [
 .o 9 .move [.T 0], .o 10 (.call 66) [.T 9], .o 11 (.build [.str [],.int .i64 0] [(0,1)]) [.T 10], .o 12 .move [.T 1],
 .o 13 (.build [.int .i64 0,.int .i64 0,.str [],.str [],.int .i64 0,.nilSl,.int .i64 0,.int .i64 0,.int .i64 0,.int .i64 0,.int .i64 0] [(0,1),(3,2),(6,1)]) [.const (.int .i64 8),.T 11,.T 12],
 .n (.storeF 0 11) [.t 4,.T 13]] none []) .ret) [] .skip)) (.seq (.region [ .o 14 .move [.t 0], .o 15 .nilCheck [.t 14], .o 16 (.fieldAddr 1) [.T 15],
 .o 17 (.load false 1 false) [.T 16], .o 18 (.bin .add) [.T 17,.const (.int .i64 1)], .o 19 .nilCheck [.T 14], .o 20 (.fieldAddr 1) [.T 19],
 .n (.store 1) [.T 20,.T 18]] none []) (.seq (.region [ .o 21 .move [.t 0], .o 22 (.call 67) [.T 21], .o 5 (.allocF 1 [.str [],.int .i64 0]) [],
 .n (.storeF 1 2) [.t 5,.T 22]] none []) (.seq (.region [ .o 23 .move [.t 0], .o 24 (.call 38) [.T 23,.const (.str [93])]] none [24]) (.seq (.region [
 .o 25 (.loadF 1 true 2 false) [.T 5], .o 26 .move [.T 0], .o 27 (.call 144) [.T 26],
 .o 28 (.lit 11 1 [.int .i64 0,.int .i64 0,.str [],.str [],.int .i64 0,.nilSl,.int .i64 0,.int .i64 0,.int .i64 0,.int .i64 0,.int .i64 0] [0]) [.T 27],
 .o 29 .move [.T 1],
 .o 30 (.build [.int .i64 0,.int .i64 0,.str [],.str [],.int .i64 0,.nilSl,.int .i64 0,.int .i64 0,.int .i64 0,.int .i64 0,.int .i64 0] [(0,1),(3,2),(5,1),(6,1)]) [.const (.int .i64 9),.T 25,.T 28,.T 29],
 .n (.storeF 0 11) [.t 4,.T 30]] (some []) []) .ret)))))) }

/-- (*runrig/runrigref3.reader).inner -/

def s144 : SFunc := { fid := 144,mode := .scp,nparams := 1,nboxes := 2,clr := [],results := [.box 2 0 11 true],body :=
 (.seq (.region [
 .o 2 (.allocF 0 [.int .i64 0,.int .i64 0,.str [],.str [],.int .i64 0,.nilSl,.int .i64 0,.int .i64 0,.int .i64 0,.int .i64 0,.int .i64 0]) []] none []) (.seq
 (.region [ .o 4 .move [.t 0], .o 5 (.call 96) [.T 4,.const (.str [40])]] none [5]) (.seq (.region [ .o 6 .move [.t 0],
 .o 7 (.call 110) [.T 6,.const (.int .i64 0)],
 .o 3 (.allocF 1 [.int .i64 0,.int .i64 0,.str [],.str [],.int .i64 0,.nilSl,.int .i64 0,.int .i64 0,.int .i64 0,.int .i64 0,.int .i64 0]) [],
 .n (.storeF 1 11) [.t 3,.T 7]] none []) (.seq (.region [ .o 8 .move [.T 0], .o 9 (.call 98) [.T 8,.const (.str [41])]] none [9]) (.seq (.region [
 .o 10 (.loadF 1 true 11 false) [.T 3], .n (.storeF 0 11) [.t 2,.T 10]] none []) .ret))))) }

/-- (*runrig/runrigref3.reader).args -/
def s145_l0 : SCode :=
 (.seq (.seq (.region [ .o 15 .move [.t 0], .o 16 (.call 34) [.T 15,.const (.str [44])]] none []) (.cond (.T 16) [] .skip [] (.exit 0))) (.block 1 (.seq
 (.region [ .o 17 .move [.t 0], .o 18 .nilCheck [.t 17], .o 19 (.fieldAddr 1) [.T 18], .o 20 (.load false 1 false) [.T 19],
 .o 21 (.bin .add) [.T 20,.const (.int .i64 1)], .o 22 .nilCheck [.T 17], .o 23 (.fieldAddr 1) [.T 22], .n (.store 1) [.T 23,.T 21]] none []) (.region [
 .o 24 .move [.T 3], .o 25 .move [.t 0], .o 26 (.call 110) [.T 25,.const (.int .i64 0)],
 .o 27 (.lit 11 1 [.int .i64 0,.int .i64 0,.str [],.str [],.int .i64 0,.nilSl,.int .i64 0,.int .i64 0,.int .i64 0,.int .i64 0,.int .i64 0] [0]) [.T 26],
 .o 28 (.append 11 120) [.T 24,.T 27], .o 3 .move [.T 28]] none []))))
def s145 : SFunc := { fid := 145,mode := .scp,nparams := 1,nboxes := 0,clr := [],results := [.tmp 2 true],body :=
 (.seq (.region [ .o 2 .move [.const .nilSl]] none [2]) (.seq (.region [ .o 3 .move [.const .nilSl]] none []) (.seq (.region [ .o 4 .move [.t 0],
 .o 5 (.call 96) [.T 4,.const (.str [40])]] none [5]) (.seq (.seq (.region [ .o 6 .move [.t 0], .o 7 (.call 34) [.T 6,.const (.str [41])]] none [])
 (.cond (.T 7) [3] (.seq (.region [ .o 8 .move [.T 0], .o 9 (.call 98) [.T 8,.const (.str [41])]] none [9]) (.seq (.region [
 .o 2 .move [.const .nilSl]] none []) .ret)) [] .skip)) (.seq (.region [ .o 10 .move [.T 3], .o 11 .move [.t 0],
 .o 12 (.call 110) [.T 11,.const (.int .i64 0)],
 .o 13 (.lit 11 1 [.int .i64 0,.int .i64 0,.str [],.str [],.int .i64 0,.nilSl,.int .i64 0,.int .i64 0,.int .i64 0,.int .i64 0,.int .i64 0] [0]) [.T 12],
 .o 14 (.append 11 120) [.T 10,.T 13], .o 3 .move [.T 14]] none []) (.seq (.block 0 (.loop s145_l0)) (.seq (.region [ .o 29 .move [.T 0],
 .o 30 (.call 98) [.T 29,.const (.str [41])]] none [30]) (.seq (.region [ .o 31 .move [.T 3], .o 2 .move [.T 31]] none []) .ret)))))))) }

def tbl : List (Option SFunc) := [none,none,none,some s3,some s4,some s5,some s6,some s7,some s8,some s9,some s10,some s11,some s12,some s13,some s14,some s15,some s16,some s17,some s18,some s19,some s20,some s21,some s22,some s23,some s24,some s25,some s26,some s27,some s28,some s29,some s30,some s31,some s32,some s33,some s34,some s35,some s36,some s37,some s38,some s39,some s40,some s41,some s42,some s43,some s44,some s45,some s46,some s47,some s48,some s49,some s50,some s51,some s52,some s53,some s54,some s55,some s56,some s57,some s58,some s59,some s60,some s61,some s62,some s63,some s64,some s65,some s66,some s67,some s68,some s69,some s70,some s71,some s72,some s73,some s74,some s75,some s76,some s77,some s78,some s79,some s80,some s81,some s82,some s83,some s84,some s85,some s86,some s87,some s88,some s89,some s90,some s91,some s92,some s93,some s94,some s95,some s96,some s97,some s98,some s99,some s100,some s101,some s102,some s103,some s104,some s105,some s106,some s107,some s108,some s109,some s110,some s111,some s112,some s113,some s114,some s115,some s116,some s117,some s118,some s119,some s120,some s121,some s122,some s123,some s124,some s125,some s126,some s127,some s128,some s129,some s130,some s131,some s132,some s133,some s134,some s135,some s136,some s137,some s138,some s139,some s140,some s141,some s142,some s143,some s144,some s145,none,none,none,none,none,none,none,none,none,none,none,none,none,none,none,none]
def vtbl : List (Option SFunc) := []
def S : Nat → Option SFunc := tabS tbl vtbl
end Code19
