/- The annotated code of the loaded program,printed by wip/tools/gen.py. -/
import Derived.Test.YtfhfpnnmcdgdkaaCode1

set_option maxRecDepth 100000
namespace Code8
open Ax Go

/-- (*runrig/runrigref3.reader).args -/
def s87_l0 : SCode :=
 (.seq (.seq (.region [ .o 15 .move [.t 0], .o 16 (.call 14) [.T 15,.const (.str [44])]] none []) (.cond (.T 16) [] .skip [] (.exit 0))) (.block 1 (.seq
 (.region [ .o 17 .move [.t 0], .o 18 .nilCheck [.t 17], .o 19 (.fieldAddr 1) [.T 18], .o 20 (.load false 1 false) [.T 19],
 .o 21 (.bin .add) [.T 20,.const (.int .i64 1)], .o 22 .nilCheck [.T 17], .o 23 (.fieldAddr 1) [.T 22], .n (.store 1) [.T 23,.T 21]] none []) (.region [
 .o 24 .move [.T 3], .o 25 .move [.t 0], .o 26 (.call 57) [.T 25,.const (.int .i64 0)],
 .o 27 (.lit 11 1 [.int .i64 0,.int .i64 0,.str [],.str [],.int .i64 0,.nilSl,.int .i64 0,.int .i64 0,.int .i64 0,.int .i64 0,.int .i64 0] [0]) [.T 26],
 .o 28 (.append 11 120) [.T 24,.T 27], .o 3 .move [.T 28]] none []))))
def s87 : SFunc := { fid := 87,mode := .scp,nparams := 1,nboxes := 0,clr := [],results := [.tmp 2 true],body :=
 (.seq (.region [ .o 2 .move [.const .nilSl]] none [2]) (.seq (.region [ .o 3 .move [.const .nilSl]] none []) (.seq (.region [ .o 4 .move [.t 0],
 .o 5 (.call 49) [.T 4,.const (.str [40])]] none [5]) (.seq (.seq (.region [ .o 6 .move [.t 0], .o 7 (.call 14) [.T 6,.const (.str [41])]] none [])
 (.cond (.T 7) [3] (.seq (.region [ .o 8 .move [.T 0], .o 9 (.call 51) [.T 8,.const (.str [41])]] none [9]) (.seq (.region [
 .o 2 .move [.const .nilSl]] none []) .ret)) [] .skip)) (.seq (.region [ .o 10 .move [.T 3], .o 11 .move [.t 0], .o 12 (.call 57) [.T 11,.const (.int .i64 0)],
 .o 13 (.lit 11 1 [.int .i64 0,.int .i64 0,.str [],.str [],.int .i64 0,.nilSl,.int .i64 0,.int .i64 0,.int .i64 0,.int .i64 0,.int .i64 0] [0]) [.T 12],
 .o 14 (.append 11 120) [.T 10,.T 13], .o 3 .move [.T 14]] none []) (.seq (.block 0 (.loop s87_l0)) (.seq (.region [ .o 29 .move [.T 0],
 .o 30 (.call 51) [.T 29,.const (.str [41])]] none [30]) (.seq (.region [ .o 31 .move [.T 3], .o 2 .move [.T 31]] none []) .ret)))))))) }

/-- (*runrig/typed.checker).call$1 -/

def s88 : SFunc := { fid := 88,mode := .scp,nparams := 2,nboxes := 1,clr := [],results := [.tmp 3 false],body :=
 (.seq (.region [ .o 2 (.boxF 0 6) [.T 0], .o 3 .move [.const (.bool false)]] none [3]) (.seq (.region [ .o 4 (.fieldAddr 0) [.T 2],
 .o 5 (.loadF 0 false 1 false) [.T 4], .o 6 (.fieldAddr 2) [.T 1], .o 7 (.load false 1 false) [.T 6], .o 8 (.bin .eql) [.T 5,.T 7], .o 3 .move [.T 8]] none [])
 .ret)) }

/-- slices.IndexFunc[[]runrig/api.Field,runrig/api.Field] -/
def s89_l0 : SCode :=
 (.seq (.region [ .o 9 (.bin .lss) [.t 8,.t 7]] none []) (.seq (.cond (.T 9) [] .skip [0,1,7,8] (.exit 0)) (.seq (.block 1 (.seq (.region [ .o 10 .move [.t 8],
 .o 5 .move [.T 10]] none []) (.seq (.region [ .o 11 .move [.t 1], .o 12 .move [.t 0], .o 13 .move [.t 5], .o 14 (.indexAddr 4) [.T 12,.T 13],
 .o 15 (.load true 4 false) [.T 14], .o 16 .callV [.T 11,.T 15]] none []) (.cond (.T 16) [0,1,7,8] (.seq (.region [ .o 17 .move [.T 5],
 .o 4 .move [.T 17]] none []) .ret) [5] .skip)))) (.region [ .o 18 (.bin .add) [.T 8,.const (.int .i64 1)], .o 8 .move [.T 18]] none []))))
def s89 : SFunc := { fid := 89,mode := .scp,nparams := 2,nboxes := 0,clr := [],results := [.tmp 4 false],body :=
 (.seq (.region [ .o 4 .move [.const (.int .i64 0)]] none [4]) (.seq (.seq (.region [ .o 6 .move [.t 0], .o 7 (.len .sl) [.T 6],
 .o 8 .move [.const (.int .i64 0)]] none []) (.block 0 (.loop s89_l0))) (.seq (.region [ .o 4 .move [.const (.int .i64 (-1))]] none []) .ret))) }

/-- runrig/typed.named$1 -/

def s90 : SFunc := { fid := 90,mode := .scp,nparams := 2,nboxes := 1,clr := [],results := [.tmp 3 false],body :=
 (.seq (.region [ .o 2 (.boxF 0 4) [.T 0], .o 3 .move [.const (.bool false)]] none [3]) (.seq (.region [ .o 4 (.fieldAddr 0) [.T 2],
 .o 5 (.loadF 0 false 1 false) [.T 4], .o 6 (.load false 1 false) [.T 1], .o 7 (.bin .eql) [.T 5,.T 6], .o 3 .move [.T 7]] none []) .ret)) }

def tbl : List (Option SFunc) := [none,none,none,some s3,some s4,some s5,some s6,some s7,some s8,some s9,some s10,some s11,some s12,some s13,some s14,some s15,some s16,some s17,some s18,some s19,some s20,some s21,some s22,some s23,some s24,some s25,some s26,some s27,some s28,some s29,some s30,some s31,some s32,some s33,some s34,some s35,some s36,some s37,some s38,some s39,some s40,some s41,some s42,some s43,some s44,some s45,some s46,some s47,some s48,some s49,some s50,some s51,some s52,some s53,some s54,some s55,some s56,some s57,some s58,some s59,some s60,some s61,some s62,some s63,some s64,some s65,some s66,some s67,some s68,some s69,some s70,some s71,some s72,some s73,some s74,some s75,some s76,some s77,some s78,some s79,some s80,some s81,some s82,some s83,some s84,some s85,some s86,some s87,some s88,some s89,some s90,none,none,none,none,none,none,none,none,none,none,none,none,none,none,none,none]
def vtbl : List (Option SFunc) := []
def S : Nat → Option SFunc := tabS tbl vtbl
end Code8
