/- The annotated code of the loaded program,printed by wip/tools/gen.py. -/
import Derived.Test.YtegibojgmandmaaCode1

set_option maxRecDepth 100000
namespace Code9
open Ax Go
def s84:SFunc:={ fid:=84,mode:=.scp,nparams:=2,nboxes:=1,clr:=[],results:=[.tmp 3 false],body:=
 (.seq (.g [.o 2 (.boxF 0 4) [.t 0],.m 3 (.b false)] [0,3]) (.seq (.g [.f 4 0 (.t 2),
 .l 5 0 (.t 4),.d 6 (.T 1),.o 7 (.bin .eql) [.t 5,.t 6],.m 3 (.t 7)] [2,4,5,6,7]) .ret)) }
def tbl:List (Option SFunc):=[none,none,none,none,some s4,some s5,some s6,some s7,some s8,some s9,some s10,some s11,some s12,some s13,some s14,some s15,some s16,some s17,some s18,some s19,some s20,some s21,some s22,some s23,some s24,some s25,some s26,some s27,some s28,some s29,some s30,some s31,some s32,some s33,some s34,some s35,some s36,some s37,some s38,some s39,some s40,some s41,some s42,some s43,some s44,some s45,some s46,some s47,some s48,some s49,some s50,some s51,some s52,some s53,some s54,some s55,some s56,some s57,some s58,some s59,some s60,some s61,some s62,some s63,some s64,some s65,some s66,some s67,some s68,some s69,some s70,some s71,some s72,some s73,some s74,some s75,some s76,some s77,some s78,some s79,some s80,some s81,some s82,some s83,some s84,none,none,none,none,none,none,none,none,none,none,none,none,none,none,none,none]
def vtbl:List (Option SFunc):=[]
def S:Nat->Option SFunc:=tabS tbl vtbl
end Code9
