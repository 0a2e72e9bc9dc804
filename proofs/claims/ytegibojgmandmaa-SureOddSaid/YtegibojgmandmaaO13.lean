/- Part of a proof. -/
import Derived.Test.YtegibojgmandmaaL
import Derived.Test.YtegibojgmandmaaK
import Derived.Test.YtegibojgmandmaaT

namespace U2
open Ax Go Code9
set_option maxRecDepth 100000
def tx13 : List UInt8 := [102,117,110,99,32,109,97,105,110,40,41,32,123,32,108,101,116,32,98,58,32,98,111,111,108,32,61,32,49,32,60,32,50,59,32,118,97,114,32,120,58,32,98,111,111,108,59,32,119,104,105,108,101,32,120,32,123,32,125,32,125]
def tx13V : AV := .tup [.own 4 [[.int .i64 3,.str [102,117,110,99],.int .i64 0,.int .i64 0],
  [.int .i64 1,.str [109,97,105,110],.int .i64 0,.int .i64 5],
  [.int .i64 4,.str [40],.int .i64 0,.int .i64 9],
  [.int .i64 4,.str [41],.int .i64 0,.int .i64 10],
  [.int .i64 4,.str [123],.int .i64 0,.int .i64 12],
  [.int .i64 3,.str [108,101,116],.int .i64 0,.int .i64 14],
  [.int .i64 1,.str [98],.int .i64 0,.int .i64 18],
  [.int .i64 4,.str [58],.int .i64 0,.int .i64 19],
  [.int .i64 3,.str [98,111,111,108],.int .i64 0,.int .i64 21],
  [.int .i64 4,.str [61],.int .i64 0,.int .i64 26],
  [.int .i64 2,.str [],.int .i64 1,.int .i64 28],
  [.int .i64 4,.str [60],.int .i64 0,.int .i64 30],
  [.int .i64 2,.str [],.int .i64 2,.int .i64 32],
  [.int .i64 4,.str [59],.int .i64 0,.int .i64 33],
  [.int .i64 3,.str [118,97,114],.int .i64 0,.int .i64 35],
  [.int .i64 1,.str [120],.int .i64 0,.int .i64 39],
  [.int .i64 4,.str [58],.int .i64 0,.int .i64 40],
  [.int .i64 3,.str [98,111,111,108],.int .i64 0,.int .i64 42],
  [.int .i64 4,.str [59],.int .i64 0,.int .i64 46],
  [.int .i64 3,.str [119,104,105,108,101],.int .i64 0,.int .i64 48],
  [.int .i64 1,.str [120],.int .i64 0,.int .i64 54],
  [.int .i64 4,.str [123],.int .i64 0,.int .i64 56],
  [.int .i64 4,.str [125],.int .i64 0,.int .i64 58],
  [.int .i64 4,.str [125],.int .i64 0,.int .i64 60],
  [.int .i64 0,.str [],.int .i64 0,.int .i64 61]], .agg [.int .i64 0, .int .i64 0]]
theorem tx13_e : AV.tup [(tokV tx13).1, .agg (tokV tx13).2] = tx13V := by kernel_rfl
theorem tx13_ok (wl lim : Nat) (st : Store) : (orcL S).call wl lim 8 [.str tx13] st = some (tx13V, st) := by rw [tokens_ok, tx13_e]
theorem ktx13 : says ((korcF S (ansF 7 [(8, tx13, tx13V)]) 800).call 0 0 3 [.int .i64 13] []) = true := by kernel_rfl
theorem lawtx13 : (orcL S).call 0 0 3 [.int .i64 13] [] = some (.bool true, []) :=
  call_kt (sf := s7) rfl rfl known0 (fun f s v hm wl lim st => by simp only [List.mem_singleton, Prod.mk.injEq] at hm; obtain ⟨rfl, rfl, rfl⟩ := hm; exact tx13_ok wl lim st) ktx13
end U2
