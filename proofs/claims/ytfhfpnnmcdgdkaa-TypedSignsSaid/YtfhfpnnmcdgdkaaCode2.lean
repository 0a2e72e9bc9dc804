/- The annotated code of the loaded program,printed by wip/tools/gen.py. -/
import Derived.Test.YtfhfpnnmcdgdkaaCode1

set_option maxRecDepth 100000
namespace Code8z
open Ax Go

/-- (*runrig/typed.checker).two -/

def s83 : SFunc := { fid := 83,mode := .scp,nparams := 2,nboxes := 4,clr := [0],results := [.box 4 1 3 true,.tmp 5 false,.tmp 6 false],body :=
 (.seq (.region [ .o 3 (.boxF 0 11) [.T 1], .o 4 (.allocF 1 [.int .i64 0,.int .i64 0,.int .i64 0]) [], .o 5 .move [.const (.int .i64 0)],
 .o 6 .move [.const (.bool false)]] none [5,6]) (.seq (.region [ .o 9 (.fieldAddr 5) [.t 3], .o 10 (.loadF 0 false 1 false) [.t 9],
 .o 11 (.indexAddr 11) [.T 10,.const (.int .i64 0)], .o 12 (.fieldAddr 7) [.T 11], .o 13 (.load true 3 false) [.T 12], .o 14 (.fieldAddr 5) [.t 3],
 .o 15 (.loadF 0 false 1 false) [.t 14], .o 16 (.indexAddr 11) [.T 15,.const (.int .i64 1)], .o 17 (.fieldAddr 7) [.T 16], .o 18 (.load true 3 false) [.T 17],
 .o 7 (.allocF 2 [.int .i64 0,.int .i64 0,.int .i64 0]) [], .o 8 (.allocF 3 [.int .i64 0,.int .i64 0,.int .i64 0]) [], .n (.storeF 2 3) [.t 7,.t 13],
 .n (.storeF 3 3) [.t 8,.t 18]] (some []) [9,13,14,18]) (.seq (.seq (.region [ .o 19 (.fieldAddr 0) [.t 3],
 .o 20 (.loadF 0 false 1 false) [.t 19]] none [3,19]) (.block 0 (.seq (.seq (.region [ .o 22 (.bin .eql) [.t 20,.const (.int .i64 14)],
 .o 21 .move [.t 22]] none [22]) (.cond (.t 21) [] .skip [21] (.seq (.region [ .o 23 (.bin .eql) [.t 20,.const (.int .i64 15)], .o 21 .move [.t 23]] none [23])
 (.cond (.t 21) [] .skip [21] (.seq (.region [ .o 24 (.bin .eql) [.t 20,.const (.int .i64 16)], .o 21 .move [.t 24]] none [24]) (.cond (.t 21) [] .skip [21]
 (.seq (.region [ .o 25 (.bin .eql) [.t 20,.const (.int .i64 17)], .o 21 .move [.t 25]] none [25]) (.cond (.t 21) [] .skip [21] (.region [
 .o 26 (.bin .eql) [.t 20,.const (.int .i64 18)], .o 21 .move [.t 26]] none [26]))))))))) (.cond (.T 21) [20] (.seq (.region [ .o 27 (.call 77) [],
 .o 28 (.loadF 2 true 3 false) [.t 7], .o 29 (.call 77) [], .o 30 (.eqv (.flat [.int,.int,.int]) false) [.t 28,.t 29], .o 31 .move [.t 30],
 .y 32 (.loadF 3 true 3 false) [.t 8] 31, .y 33 (.call 77) [] 31, .y 34 (.eqv (.flat [.int,.int,.int]) false) [.t 32,.t 33] 31,
 .o 35 .pick [.t 31,.t 34,.const (.bool false)], .n (.storeF 1 3) [.t 4,.t 27], .o 5 .move [.const (.int .i64 0)],
 .o 6 .move [.t 35]] (some []) [7,8,27,28,29,30,31,32,33,34,35]) .ret) [] (.seq (.seq (.region [ .o 37 (.bin .eql) [.t 20,.const (.int .i64 19)],
 .o 36 .move [.t 37]] none [37]) (.cond (.t 36) [] .skip [36] (.region [ .o 38 (.bin .eql) [.t 20,.const (.int .i64 20)], .o 36 .move [.t 38]] none [38])))
 (.cond (.T 36) [20] (.seq (.region [ .o 39 (.call 76) [], .o 40 (.loadF 2 true 3 false) [.t 7], .o 41 (.call 77) [],
 .o 42 (.eqv (.flat [.int,.int,.int]) false) [.t 40,.t 41], .o 43 .move [.t 42], .y 44 (.loadF 3 true 3 false) [.t 8] 43, .y 45 (.call 77) [] 43,
 .y 46 (.eqv (.flat [.int,.int,.int]) false) [.t 44,.t 45] 43, .o 47 .pick [.t 43,.t 46,.const (.bool false)], .n (.storeF 1 3) [.t 4,.t 39],
 .o 5 .move [.const (.int .i64 0)], .o 6 .move [.t 47]] (some []) [7,8,39,40,41,42,43,44,45,46,47]) .ret) [] (.seq (.seq (.region [
 .o 49 (.bin .eql) [.t 20,.const (.int .i64 21)], .o 48 .move [.t 49]] none [49]) (.cond (.t 48) [20] .skip [48] (.region [
 .o 50 (.bin .eql) [.t 20,.const (.int .i64 22)], .o 48 .move [.t 50]] none [20,50]))) (.cond (.T 48) [] (.seq (.region [ .o 51 (.call 76) [],
 .o 52 (.loadF 2 true 3 false) [.t 7], .o 53 (.loadF 3 true 3 false) [.t 8], .o 54 (.eqv (.flat [.int,.int,.int]) false) [.t 52,.t 53],
 .n (.storeF 1 3) [.t 4,.t 51], .o 5 .move [.const (.int .i64 0)], .o 6 .move [.t 54]] (some []) [7,8,51,52,53,54]) .ret) [] .skip)))))))) (.seq (.region [
 .o 55 (.call 76) [], .o 56 (.loadF 2 true 3 false) [.t 7], .o 57 (.call 76) [], .o 58 (.eqv (.flat [.int,.int,.int]) false) [.t 56,.t 57],
 .o 59 .move [.t 58], .y 60 (.loadF 3 true 3 false) [.t 8] 59, .y 61 (.call 76) [] 59, .y 62 (.eqv (.flat [.int,.int,.int]) false) [.t 60,.t 61] 59,
 .o 63 .pick [.t 59,.t 62,.const (.bool false)], .n (.storeF 1 3) [.t 4,.t 55], .o 5 .move [.const (.int .i64 0)],
 .o 6 .move [.t 63]] (some []) [7,8,55,56,57,58,59,60,61,62,63]) .ret)))) }

/-- runrig/typed.named -/

def s84 : SFunc := { fid := 84,mode := .pure,nparams := 2,nboxes := 0,clr := [],results := [.tmp 4 false],body :=
 (.seq (.region [ .o 3 (.box 1) [.t 1], .o 4 .move [.const (.int .i64 0)]] none [1,4]) (.seq (.region [ .o 5 .move [.T 0], .o 6 (.makeFunc 90 0) [.T 3],
 .o 7 (.call 89) [.T 5,.t 6], .o 4 .move [.t 7]] none [6,7]) .ret)) }

/-- (*runrig/runrigref3.reader).fresh -/

def s85 : SFunc := { fid := 85,mode := .scp,nparams := 2,nboxes := 2,clr := [],results := [.box 4 0 11 true],body :=
 (.seq (.region [
 .o 4 (.allocF 0 [.int .i64 0,.int .i64 0,.str [],.str [],.int .i64 0,.nilSl,.int .i64 0,.int .i64 0,.int .i64 0,.int .i64 0,.int .i64 0]) []] none []) (.seq
 (.seq (.region [ .o 6 .move [.t 0], .o 7 (.call 14) [.t 6,.const (.str [91])], .o 8 (.un .not) [.t 7]] none [6,7]) (.cond (.T 8) [] (.seq (.region [
 .o 9 .move [.t 0], .o 10 (.call 29) [.t 9], .o 11 (.build [.str [],.int .i64 0] [(0,1)]) [.t 10], .o 12 .move [.t 1],
 .o 13 (.build [.int .i64 0,.int .i64 0,.str [],.str [],.int .i64 0,.nilSl,.int .i64 0,.int .i64 0,.int .i64 0,.int .i64 0,.int .i64 0] [(0,1),(3,2),(6,1)]) [.const (.int .i64 8),.t 11,.t 12],
 .n (.storeF 0 11) [.t 4,.T 13]] none [0,1,9,10,11,12]) .ret) [] .skip)) (.seq (.region [ .o 14 .move [.t 0], .o 15 .nilCheck [.t 14],
 .o 16 (.fieldAddr 1) [.T 15], .o 17 (.load false 1 false) [.T 16], .o 18 (.bin .add) [.t 17,.const (.int .i64 1)], .o 19 .nilCheck [.t 14],
 .o 20 (.fieldAddr 1) [.T 19], .n (.store 1) [.T 20,.t 18]] none [14,17,18]) (.seq (.region [ .o 21 .move [.t 0], .o 22 (.call 30) [.t 21],
 .o 5 (.allocF 1 [.str [],.int .i64 0]) [], .n (.storeF 1 2) [.t 5,.t 22]] none [21,22]) (.seq (.region [ .o 23 .move [.t 0],
 .o 24 (.call 18) [.t 23,.const (.str [93])]] none [23,24]) (.seq (.region [ .o 25 (.loadF 1 true 2 false) [.t 5], .o 26 .move [.t 0],
 .o 27 (.call 86) [.t 26],
 .o 28 (.lit 11 1 [.int .i64 0,.int .i64 0,.str [],.str [],.int .i64 0,.nilSl,.int .i64 0,.int .i64 0,.int .i64 0,.int .i64 0,.int .i64 0] [0]) [.T 27],
 .o 29 .move [.t 1],
 .o 30 (.build [.int .i64 0,.int .i64 0,.str [],.str [],.int .i64 0,.nilSl,.int .i64 0,.int .i64 0,.int .i64 0,.int .i64 0,.int .i64 0] [(0,1),(3,2),(5,1),(6,1)]) [.const (.int .i64 9),.t 25,.T 28,.t 29],
 .n (.storeF 0 11) [.t 4,.T 30]] (some []) [0,1,5,25,26,29]) .ret)))))) }

/-- (*runrig/runrigref3.reader).inner -/

def s86 : SFunc := { fid := 86,mode := .scp,nparams := 1,nboxes := 2,clr := [],results := [.box 2 0 11 true],body :=
 (.seq (.region [
 .o 2 (.allocF 0 [.int .i64 0,.int .i64 0,.str [],.str [],.int .i64 0,.nilSl,.int .i64 0,.int .i64 0,.int .i64 0,.int .i64 0,.int .i64 0]) []] none []) (.seq
 (.region [ .o 4 .move [.t 0], .o 5 (.call 49) [.t 4,.const (.str [40])]] none [4,5]) (.seq (.region [ .o 6 .move [.t 0],
 .o 7 (.call 57) [.t 6,.const (.int .i64 0)],
 .o 3 (.allocF 1 [.int .i64 0,.int .i64 0,.str [],.str [],.int .i64 0,.nilSl,.int .i64 0,.int .i64 0,.int .i64 0,.int .i64 0,.int .i64 0]) [],
 .n (.storeF 1 11) [.t 3,.T 7]] none [6]) (.seq (.region [ .o 8 .move [.t 0], .o 9 (.call 51) [.t 8,.const (.str [41])]] none [0,8,9]) (.seq (.region [
 .o 10 (.loadF 1 true 11 false) [.t 3], .n (.storeF 0 11) [.t 2,.T 10]] none [3]) .ret))))) }

/-- (*runrig/runrigref3.reader).args -/
def s87_l0 : SCode :=
 (.seq (.seq (.region [ .o 15 .move [.t 0], .o 16 (.call 14) [.t 15,.const (.str [44])]] none [15]) (.cond (.T 16) [] .skip [] (.exit 0))) (.block 1 (.seq
 (.region [ .o 17 .move [.t 0], .o 18 .nilCheck [.t 17], .o 19 (.fieldAddr 1) [.T 18], .o 20 (.load false 1 false) [.T 19],
 .o 21 (.bin .add) [.t 20,.const (.int .i64 1)], .o 22 .nilCheck [.t 17], .o 23 (.fieldAddr 1) [.T 22], .n (.store 1) [.T 23,.t 21]] none [17,20,21])
 (.region [ .o 24 .move [.T 3], .o 25 .move [.t 0], .o 26 (.call 57) [.t 25,.const (.int .i64 0)],
 .o 27 (.lit 11 1 [.int .i64 0,.int .i64 0,.str [],.str [],.int .i64 0,.nilSl,.int .i64 0,.int .i64 0,.int .i64 0,.int .i64 0,.int .i64 0] [0]) [.T 26],
 .o 28 (.append 11 120) [.T 24,.T 27], .o 3 .move [.T 28]] none [25]))))
def s87 : SFunc := { fid := 87,mode := .scp,nparams := 1,nboxes := 0,clr := [],results := [.tmp 2 true],body :=
 (.seq (.region [ .o 2 .move [.const .nilSl]] none [2]) (.seq (.region [ .o 3 .move [.const .nilSl]] none []) (.seq (.region [ .o 4 .move [.t 0],
 .o 5 (.call 49) [.t 4,.const (.str [40])]] none [4,5]) (.seq (.seq (.region [ .o 6 .move [.t 0], .o 7 (.call 14) [.t 6,.const (.str [41])]] none [6])
 (.cond (.T 7) [3] (.seq (.region [ .o 8 .move [.t 0], .o 9 (.call 51) [.t 8,.const (.str [41])]] none [0,8,9]) (.seq (.region [
 .o 2 .move [.const .nilSl]] none []) .ret)) [] .skip)) (.seq (.region [ .o 10 .move [.T 3], .o 11 .move [.t 0], .o 12 (.call 57) [.t 11,.const (.int .i64 0)],
 .o 13 (.lit 11 1 [.int .i64 0,.int .i64 0,.str [],.str [],.int .i64 0,.nilSl,.int .i64 0,.int .i64 0,.int .i64 0,.int .i64 0,.int .i64 0] [0]) [.T 12],
 .o 14 (.append 11 120) [.T 10,.T 13], .o 3 .move [.T 14]] none [11]) (.seq (.block 0 (.loop s87_l0)) (.seq (.region [ .o 29 .move [.t 0],
 .o 30 (.call 51) [.t 29,.const (.str [41])]] none [0,29,30]) (.seq (.region [ .o 31 .move [.T 3], .o 2 .move [.T 31]] none []) .ret)))))))) }

/-- (*runrig/typed.checker).call$1 -/

def s88 : SFunc := { fid := 88,mode := .scp,nparams := 2,nboxes := 1,clr := [],results := [.tmp 3 false],body :=
 (.seq (.region [ .o 2 (.boxF 0 6) [.T 0], .o 3 .move [.const (.bool false)]] none [3]) (.seq (.region [ .o 4 (.fieldAddr 0) [.t 2],
 .o 5 (.loadF 0 false 1 false) [.t 4], .o 6 (.fieldAddr 2) [.T 1], .o 7 (.load false 1 false) [.T 6], .o 8 (.bin .eql) [.t 5,.t 7],
 .o 3 .move [.t 8]] none [2,4,5,7,8]) .ret)) }

/-- slices.IndexFunc[[]runrig/api.Field,runrig/api.Field] -/
def s89_l0 : SCode :=
 (.seq (.region [ .o 9 (.bin .lss) [.t 8,.t 7]] none []) (.seq (.cond (.T 9) [] .skip [0,1,7,8] (.exit 0)) (.seq (.block 1 (.seq (.region [ .o 10 .move [.t 8],
 .o 5 .move [.t 10]] none [10]) (.seq (.region [ .o 11 .move [.t 1], .o 12 .move [.t 0], .o 13 .move [.t 5], .o 14 (.indexAddr 4) [.T 12,.t 13],
 .o 15 (.load true 4 false) [.T 14], .o 16 .callV [.t 11,.t 15]] none [11,13,15]) (.cond (.T 16) [0,1,7,8] (.seq (.region [ .o 17 .move [.t 5],
 .o 4 .move [.t 17]] none [5,17]) .ret) [5] .skip)))) (.region [ .o 18 (.bin .add) [.t 8,.const (.int .i64 1)], .o 8 .move [.t 18]] none [18]))))
def s89 : SFunc := { fid := 89,mode := .scp,nparams := 2,nboxes := 0,clr := [],results := [.tmp 4 false],body :=
 (.seq (.region [ .o 4 .move [.const (.int .i64 0)]] none [4]) (.seq (.seq (.region [ .o 6 .move [.t 0], .o 7 (.len .sl) [.T 6],
 .o 8 .move [.const (.int .i64 0)]] none []) (.block 0 (.loop s89_l0))) (.seq (.region [ .o 4 .move [.const (.int .i64 (-1))]] none []) .ret))) }

/-- runrig/typed.named$1 -/

def s90 : SFunc := { fid := 90,mode := .scp,nparams := 2,nboxes := 1,clr := [],results := [.tmp 3 false],body :=
 (.seq (.region [ .o 2 (.boxF 0 4) [.t 0], .o 3 .move [.const (.bool false)]] none [0,3]) (.seq (.region [ .o 4 (.fieldAddr 0) [.t 2],
 .o 5 (.loadF 0 false 1 false) [.t 4], .o 6 (.load false 1 false) [.T 1], .o 7 (.bin .eql) [.t 5,.t 6], .o 3 .move [.t 7]] none [2,4,5,6,7]) .ret)) }

def tbl : List (Option SFunc) := [none,none,none,some s3,some s4,some s5,some s6,some s7,some s8,some s9,some s10,some s11,some s12,some s13,some s14,some s15,some s16,some s17,some s18,some s19,some s20,some s21,some s22,some s23,some s24,some s25,some s26,some s27,some s28,some s29,some s30,some s31,some s32,some s33,some s34,some s35,some s36,some s37,some s38,some s39,some s40,some s41,some s42,some s43,some s44,some s45,some s46,some s47,some s48,some s49,some s50,some s51,some s52,some s53,some s54,some s55,some s56,some s57,some s58,some s59,some s60,some s61,some s62,some s63,some s64,some s65,some s66,some s67,some s68,some s69,some s70,some s71,some s72,some s73,some s74,some s75,some s76,some s77,some s78,some s79,some s80,some s81,some s82,some s83,some s84,some s85,some s86,some s87,some s88,some s89,some s90,none,none,none,none,none,none,none,none,none,none,none,none,none,none,none,none]
def vtbl : List (Option SFunc) := []
def S : Nat → Option SFunc := tabS tbl vtbl
end Code8z
