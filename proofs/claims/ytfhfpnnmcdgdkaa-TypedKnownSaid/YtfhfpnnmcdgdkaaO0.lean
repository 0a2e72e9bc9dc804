/- Part of a proof. -/
import Derived.Test.YtfhfpnnmcdgdkaaL
import Derived.Test.YtfhfpnnmcdgdkaaK
import Derived.Test.YtfhfpnnmcdgdkaaT

namespace U2
open Ax Go Code8
set_option maxRecDepth 100000
def tx0f : List UInt8 := [102,117,110,99,32,109,97,105,110,40,41,32,123,32,112,114,105,110,116,32,120,59,32,108,101,116,32,120,58,32,105,110,116,32,61,32,50,59,32,112,114,105,110,116,32,120,59,32,125]
def tx0fV : AV := .tup [.own 4 [[.int .i64 3,.str [102,117,110,99],.int .i64 0,.int .i64 0],
  [.int .i64 1,.str [109,97,105,110],.int .i64 0,.int .i64 5],
  [.int .i64 4,.str [40],.int .i64 0,.int .i64 9],
  [.int .i64 4,.str [41],.int .i64 0,.int .i64 10],
  [.int .i64 4,.str [123],.int .i64 0,.int .i64 12],
  [.int .i64 3,.str [112,114,105,110,116],.int .i64 0,.int .i64 14],
  [.int .i64 1,.str [120],.int .i64 0,.int .i64 20],
  [.int .i64 4,.str [59],.int .i64 0,.int .i64 21],
  [.int .i64 3,.str [108,101,116],.int .i64 0,.int .i64 23],
  [.int .i64 1,.str [120],.int .i64 0,.int .i64 27],
  [.int .i64 4,.str [58],.int .i64 0,.int .i64 28],
  [.int .i64 3,.str [105,110,116],.int .i64 0,.int .i64 30],
  [.int .i64 4,.str [61],.int .i64 0,.int .i64 34],
  [.int .i64 2,.str [],.int .i64 2,.int .i64 36],
  [.int .i64 4,.str [59],.int .i64 0,.int .i64 37],
  [.int .i64 3,.str [112,114,105,110,116],.int .i64 0,.int .i64 39],
  [.int .i64 1,.str [120],.int .i64 0,.int .i64 45],
  [.int .i64 4,.str [59],.int .i64 0,.int .i64 46],
  [.int .i64 4,.str [125],.int .i64 0,.int .i64 48],
  [.int .i64 0,.str [],.int .i64 0,.int .i64 49]], .agg [.int .i64 0, .int .i64 0]]
theorem tx0f_e : AV.tup [(tokV tx0f).1, .agg (tokV tx0f).2] = tx0fV := by kernel_rfl
theorem tx0f_ok (wl lim : Nat) (st : Store) : (orcL S).call wl lim 11 [.str tx0f] st = some (tx0fV, st) := by rw [tokens_ok, tx0f_e]
theorem ktx0f : says ((korcF S (ansF 8 [(11, tx0f, tx0fV)]) 800).call 0 0 5 [.int .i64 0, .bool false] []) = true := by kernel_rfl
theorem lawtx0f : (orcL S).call 0 0 5 [.int .i64 0, .bool false] [] = some (.bool true, []) :=
  call_kt (sf := s8) rfl rfl known0 (fun f s v hm wl lim st => by simp only [List.mem_singleton, Prod.mk.injEq] at hm; obtain ⟨rfl, rfl, rfl⟩ := hm; exact tx0f_ok wl lim st) ktx0f
def tx0g : List UInt8 := [103,108,111,98,97,108,32,120,58,32,105,110,116,59,32,102,117,110,99,32,109,97,105,110,40,41,32,123,32,112,114,105,110,116,32,120,59,32,108,101,116,32,120,58,32,105,110,116,32,61,32,50,59,32,112,114,105,110,116,32,120,59,32,125]
def tx0gV : AV := .tup [.own 4 [[.int .i64 3,.str [103,108,111,98,97,108],.int .i64 0,.int .i64 0],
  [.int .i64 1,.str [120],.int .i64 0,.int .i64 7],
  [.int .i64 4,.str [58],.int .i64 0,.int .i64 8],
  [.int .i64 3,.str [105,110,116],.int .i64 0,.int .i64 10],
  [.int .i64 4,.str [59],.int .i64 0,.int .i64 13],
  [.int .i64 3,.str [102,117,110,99],.int .i64 0,.int .i64 15],
  [.int .i64 1,.str [109,97,105,110],.int .i64 0,.int .i64 20],
  [.int .i64 4,.str [40],.int .i64 0,.int .i64 24],
  [.int .i64 4,.str [41],.int .i64 0,.int .i64 25],
  [.int .i64 4,.str [123],.int .i64 0,.int .i64 27],
  [.int .i64 3,.str [112,114,105,110,116],.int .i64 0,.int .i64 29],
  [.int .i64 1,.str [120],.int .i64 0,.int .i64 35],
  [.int .i64 4,.str [59],.int .i64 0,.int .i64 36],
  [.int .i64 3,.str [108,101,116],.int .i64 0,.int .i64 38],
  [.int .i64 1,.str [120],.int .i64 0,.int .i64 42],
  [.int .i64 4,.str [58],.int .i64 0,.int .i64 43],
  [.int .i64 3,.str [105,110,116],.int .i64 0,.int .i64 45],
  [.int .i64 4,.str [61],.int .i64 0,.int .i64 49],
  [.int .i64 2,.str [],.int .i64 2,.int .i64 51],
  [.int .i64 4,.str [59],.int .i64 0,.int .i64 52],
  [.int .i64 3,.str [112,114,105,110,116],.int .i64 0,.int .i64 54],
  [.int .i64 1,.str [120],.int .i64 0,.int .i64 60],
  [.int .i64 4,.str [59],.int .i64 0,.int .i64 61],
  [.int .i64 4,.str [125],.int .i64 0,.int .i64 63],
  [.int .i64 0,.str [],.int .i64 0,.int .i64 64]], .agg [.int .i64 0, .int .i64 0]]
theorem tx0g_e : AV.tup [(tokV tx0g).1, .agg (tokV tx0g).2] = tx0gV := by kernel_rfl
theorem tx0g_ok (wl lim : Nat) (st : Store) : (orcL S).call wl lim 11 [.str tx0g] st = some (tx0gV, st) := by rw [tokens_ok, tx0g_e]
theorem ktx0g : says ((korcF S (ansF 8 [(11, tx0g, tx0gV)]) 800).call 0 0 5 [.int .i64 0, .bool true] []) = true := by kernel_rfl
theorem lawtx0g : (orcL S).call 0 0 5 [.int .i64 0, .bool true] [] = some (.bool true, []) :=
  call_kt (sf := s8) rfl rfl known0 (fun f s v hm wl lim st => by simp only [List.mem_singleton, Prod.mk.injEq] at hm; obtain ⟨rfl, rfl, rfl⟩ := hm; exact tx0g_ok wl lim st) ktx0g
end U2
