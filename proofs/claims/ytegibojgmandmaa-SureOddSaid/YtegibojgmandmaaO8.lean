/- Part of a proof. -/
import Derived.Test.YtegibojgmandmaaL
import Derived.Test.YtegibojgmandmaaK
import Derived.Test.YtegibojgmandmaaT

namespace U2
open Ax Go Code9
set_option maxRecDepth 100000
def tx8 : List UInt8 := [102,117,110,99,32,109,97,105,110,40,41,32,123,32,108,101,116,32,98,58,32,98,111,111,108,32,61,32,49,32,60,32,50,59,32,119,104,105,108,101,32,98,32,123,32,108,101,116,32,120,58,32,105,110,116,32,61,32,49,59,32,112,114,105,110,116,32,120,59,32,125,32,112,114,105,110,116,32,120,59,32,125]
def tx8V : AV := .tup [.own 4 [[.int .i64 3,.str [102,117,110,99],.int .i64 0,.int .i64 0],
  [.int .i64 1,.str [109,97,105,110],.int .i64 0,.int .i64 5],
  [.int .i64 4,.str [40],.int .i64 0,.int .i64 9],
  [.int .i64 4,.str [41],.int .i64 0,.int .i64 10],
  [.int .i64 4,.str [123],.int .i64 0,.int .i64 12],
  [.int .i64 3,.str [108,101,116],.int .i64 0,.int .i64 14],
  [.int .i64 1,.str [98],.int .i64 0,.int .i64 18],
  [.int .i64 4,.str [58],.int .i64 0,.int .i64 19],
  [.int .i64 3,.str [98,111,111,108],.int .i64 0,.int .i64 21],
  [.int .i64 4,.str [61],.int .i64 0,.int .i64 26],
  [.int .i64 2,.str [],.int .i64 1,.int .i64 28],
  [.int .i64 4,.str [60],.int .i64 0,.int .i64 30],
  [.int .i64 2,.str [],.int .i64 2,.int .i64 32],
  [.int .i64 4,.str [59],.int .i64 0,.int .i64 33],
  [.int .i64 3,.str [119,104,105,108,101],.int .i64 0,.int .i64 35],
  [.int .i64 1,.str [98],.int .i64 0,.int .i64 41],
  [.int .i64 4,.str [123],.int .i64 0,.int .i64 43],
  [.int .i64 3,.str [108,101,116],.int .i64 0,.int .i64 45],
  [.int .i64 1,.str [120],.int .i64 0,.int .i64 49],
  [.int .i64 4,.str [58],.int .i64 0,.int .i64 50],
  [.int .i64 3,.str [105,110,116],.int .i64 0,.int .i64 52],
  [.int .i64 4,.str [61],.int .i64 0,.int .i64 56],
  [.int .i64 2,.str [],.int .i64 1,.int .i64 58],
  [.int .i64 4,.str [59],.int .i64 0,.int .i64 59],
  [.int .i64 3,.str [112,114,105,110,116],.int .i64 0,.int .i64 61],
  [.int .i64 1,.str [120],.int .i64 0,.int .i64 67],
  [.int .i64 4,.str [59],.int .i64 0,.int .i64 68],
  [.int .i64 4,.str [125],.int .i64 0,.int .i64 70],
  [.int .i64 3,.str [112,114,105,110,116],.int .i64 0,.int .i64 72],
  [.int .i64 1,.str [120],.int .i64 0,.int .i64 78],
  [.int .i64 4,.str [59],.int .i64 0,.int .i64 79],
  [.int .i64 4,.str [125],.int .i64 0,.int .i64 81],
  [.int .i64 0,.str [],.int .i64 0,.int .i64 82]], .agg [.int .i64 0, .int .i64 0]]
theorem tx8_e : AV.tup [(tokV tx8).1, .agg (tokV tx8).2] = tx8V := by kernel_rfl
theorem tx8_ok (wl lim : Nat) (st : Store) : (orcL S).call wl lim 8 [.str tx8] st = some (tx8V, st) := by rw [tokens_ok, tx8_e]
theorem ktx8 : says ((korcF S (ansF 7 [(8, tx8, tx8V)]) 800).call 0 0 3 [.int .i64 8] []) = true := by kernel_rfl
theorem lawtx8 : (orcL S).call 0 0 3 [.int .i64 8] [] = some (.bool true, []) :=
  call_kt (sf := s7) rfl rfl known0 (fun f s v hm wl lim st => by simp only [List.mem_singleton, Prod.mk.injEq] at hm; obtain ⟨rfl, rfl, rfl⟩ := hm; exact tx8_ok wl lim st) ktx8
end U2
