/- Part of a proof. -/
import Derived.Test.YtegibojgmandmaaL
import Derived.Test.YtegibojgmandmaaK
import Derived.Test.YtegibojgmandmaaT

namespace U2
open Ax Go Code9
set_option maxRecDepth 100000
def tx6 : List UInt8 := [102,117,110,99,32,109,97,105,110,40,41,32,123,32,108,101,116,32,98,58,32,98,111,111,108,32,61,32,49,32,60,32,50,59,32,105,102,32,98,32,123,32,108,101,116,32,120,58,32,105,110,116,32,61,32,49,59,32,125,32,112,114,105,110,116,32,120,59,32,125]
def tx6V : AV := .tup [.own 4 [[.int .i64 3,.str [102,117,110,99],.int .i64 0,.int .i64 0],
  [.int .i64 1,.str [109,97,105,110],.int .i64 0,.int .i64 5],
  [.int .i64 4,.str [40],.int .i64 0,.int .i64 9],
  [.int .i64 4,.str [41],.int .i64 0,.int .i64 10],
  [.int .i64 4,.str [123],.int .i64 0,.int .i64 12],
  [.int .i64 3,.str [108,101,116],.int .i64 0,.int .i64 14],
  [.int .i64 1,.str [98],.int .i64 0,.int .i64 18],
  [.int .i64 4,.str [58],.int .i64 0,.int .i64 19],
  [.int .i64 3,.str [98,111,111,108],.int .i64 0,.int .i64 21],
  [.int .i64 4,.str [61],.int .i64 0,.int .i64 26],
  [.int .i64 2,.str [],.int .i64 1,.int .i64 28],
  [.int .i64 4,.str [60],.int .i64 0,.int .i64 30],
  [.int .i64 2,.str [],.int .i64 2,.int .i64 32],
  [.int .i64 4,.str [59],.int .i64 0,.int .i64 33],
  [.int .i64 3,.str [105,102],.int .i64 0,.int .i64 35],
  [.int .i64 1,.str [98],.int .i64 0,.int .i64 38],
  [.int .i64 4,.str [123],.int .i64 0,.int .i64 40],
  [.int .i64 3,.str [108,101,116],.int .i64 0,.int .i64 42],
  [.int .i64 1,.str [120],.int .i64 0,.int .i64 46],
  [.int .i64 4,.str [58],.int .i64 0,.int .i64 47],
  [.int .i64 3,.str [105,110,116],.int .i64 0,.int .i64 49],
  [.int .i64 4,.str [61],.int .i64 0,.int .i64 53],
  [.int .i64 2,.str [],.int .i64 1,.int .i64 55],
  [.int .i64 4,.str [59],.int .i64 0,.int .i64 56],
  [.int .i64 4,.str [125],.int .i64 0,.int .i64 58],
  [.int .i64 3,.str [112,114,105,110,116],.int .i64 0,.int .i64 60],
  [.int .i64 1,.str [120],.int .i64 0,.int .i64 66],
  [.int .i64 4,.str [59],.int .i64 0,.int .i64 67],
  [.int .i64 4,.str [125],.int .i64 0,.int .i64 69],
  [.int .i64 0,.str [],.int .i64 0,.int .i64 70]], .agg [.int .i64 0, .int .i64 0]]
theorem tx6_e : AV.tup [(tokV tx6).1, .agg (tokV tx6).2] = tx6V := by kernel_rfl
theorem tx6_ok (wl lim : Nat) (st : Store) : (orcL S).call wl lim 8 [.str tx6] st = some (tx6V, st) := by rw [tokens_ok, tx6_e]
theorem ktx6 : says ((korcF S (ansF 7 [(8, tx6, tx6V)]) 800).call 0 0 3 [.int .i64 6] []) = true := by kernel_rfl
theorem lawtx6 : (orcL S).call 0 0 3 [.int .i64 6] [] = some (.bool true, []) :=
  call_kt (sf := s7) rfl rfl known0 (fun f s v hm wl lim st => by simp only [List.mem_singleton, Prod.mk.injEq] at hm; obtain ⟨rfl, rfl, rfl⟩ := hm; exact tx6_ok wl lim st) ktx6
end U2
