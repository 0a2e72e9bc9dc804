/- Part of a proof. -/
import Derived.Test.YtfhfpnnmcdgdkaaL
import Derived.Test.YtfhfpnnmcdgdkaaK
import Derived.Test.YtfhfpnnmcdgdkaaT

namespace U2
open Ax Go Code8
set_option maxRecDepth 100000
def tx5f : List UInt8 := [102,117,110,99,32,109,97,105,110,40,41,32,123,32,105,102,32,116,114,117,101,32,123,32,105,102,32,116,114,117,101,32,123,32,105,102,32,116,114,117,101,32,123,32,105,102,32,116,114,117,101,32,123,32,105,102,32,116,114,117,101,32,123,32,112,114,105,110,116,32,120,59,32,108,101,116,32,120,58,32,105,110,116,32,61,32,50,59,32,125,32,125,32,125,32,125,32,125,32,112,114,105,110,116,32,120,59,32,125]
def tx5fV : AV := .tup [.own 4 [[.int .i64 3,.str [102,117,110,99],.int .i64 0,.int .i64 0],
  [.int .i64 1,.str [109,97,105,110],.int .i64 0,.int .i64 5],
  [.int .i64 4,.str [40],.int .i64 0,.int .i64 9],
  [.int .i64 4,.str [41],.int .i64 0,.int .i64 10],
  [.int .i64 4,.str [123],.int .i64 0,.int .i64 12],
  [.int .i64 3,.str [105,102],.int .i64 0,.int .i64 14],
  [.int .i64 3,.str [116,114,117,101],.int .i64 0,.int .i64 17],
  [.int .i64 4,.str [123],.int .i64 0,.int .i64 22],
  [.int .i64 3,.str [105,102],.int .i64 0,.int .i64 24],
  [.int .i64 3,.str [116,114,117,101],.int .i64 0,.int .i64 27],
  [.int .i64 4,.str [123],.int .i64 0,.int .i64 32],
  [.int .i64 3,.str [105,102],.int .i64 0,.int .i64 34],
  [.int .i64 3,.str [116,114,117,101],.int .i64 0,.int .i64 37],
  [.int .i64 4,.str [123],.int .i64 0,.int .i64 42],
  [.int .i64 3,.str [105,102],.int .i64 0,.int .i64 44],
  [.int .i64 3,.str [116,114,117,101],.int .i64 0,.int .i64 47],
  [.int .i64 4,.str [123],.int .i64 0,.int .i64 52],
  [.int .i64 3,.str [105,102],.int .i64 0,.int .i64 54],
  [.int .i64 3,.str [116,114,117,101],.int .i64 0,.int .i64 57],
  [.int .i64 4,.str [123],.int .i64 0,.int .i64 62],
  [.int .i64 3,.str [112,114,105,110,116],.int .i64 0,.int .i64 64],
  [.int .i64 1,.str [120],.int .i64 0,.int .i64 70],
  [.int .i64 4,.str [59],.int .i64 0,.int .i64 71],
  [.int .i64 3,.str [108,101,116],.int .i64 0,.int .i64 73],
  [.int .i64 1,.str [120],.int .i64 0,.int .i64 77],
  [.int .i64 4,.str [58],.int .i64 0,.int .i64 78],
  [.int .i64 3,.str [105,110,116],.int .i64 0,.int .i64 80],
  [.int .i64 4,.str [61],.int .i64 0,.int .i64 84],
  [.int .i64 2,.str [],.int .i64 2,.int .i64 86],
  [.int .i64 4,.str [59],.int .i64 0,.int .i64 87],
  [.int .i64 4,.str [125],.int .i64 0,.int .i64 89],
  [.int .i64 4,.str [125],.int .i64 0,.int .i64 91],
  [.int .i64 4,.str [125],.int .i64 0,.int .i64 93],
  [.int .i64 4,.str [125],.int .i64 0,.int .i64 95],
  [.int .i64 4,.str [125],.int .i64 0,.int .i64 97],
  [.int .i64 3,.str [112,114,105,110,116],.int .i64 0,.int .i64 99],
  [.int .i64 1,.str [120],.int .i64 0,.int .i64 105],
  [.int .i64 4,.str [59],.int .i64 0,.int .i64 106],
  [.int .i64 4,.str [125],.int .i64 0,.int .i64 108],
  [.int .i64 0,.str [],.int .i64 0,.int .i64 109]], .agg [.int .i64 0, .int .i64 0]]
theorem tx5f_e : AV.tup [(tokV tx5f).1, .agg (tokV tx5f).2] = tx5fV := by kernel_rfl
theorem tx5f_ok (wl lim : Nat) (st : Store) : (orcL S).call wl lim 11 [.str tx5f] st = some (tx5fV, st) := by rw [tokens_ok, tx5f_e]
theorem ktx5f : says ((korcF S (ansF 8 [(11, tx5f, tx5fV)]) 800).call 0 0 5 [.int .i64 5, .bool false] []) = true := by kernel_rfl
theorem lawtx5f : (orcL S).call 0 0 5 [.int .i64 5, .bool false] [] = some (.bool true, []) :=
  call_kt (sf := s8) rfl rfl known0 (fun f s v hm wl lim st => by simp only [List.mem_singleton, Prod.mk.injEq] at hm; obtain ⟨rfl, rfl, rfl⟩ := hm; exact tx5f_ok wl lim st) ktx5f
def tx5g : List UInt8 := [103,108,111,98,97,108,32,120,58,32,105,110,116,59,32,102,117,110,99,32,109,97,105,110,40,41,32,123,32,105,102,32,116,114,117,101,32,123,32,105,102,32,116,114,117,101,32,123,32,105,102,32,116,114,117,101,32,123,32,105,102,32,116,114,117,101,32,123,32,105,102,32,116,114,117,101,32,123,32,112,114,105,110,116,32,120,59,32,108,101,116,32,120,58,32,105,110,116,32,61,32,50,59,32,125,32,125,32,125,32,125,32,125,32,112,114,105,110,116,32,120,59,32,125]
def tx5gV : AV := .tup [.own 4 [[.int .i64 3,.str [103,108,111,98,97,108],.int .i64 0,.int .i64 0],
  [.int .i64 1,.str [120],.int .i64 0,.int .i64 7],
  [.int .i64 4,.str [58],.int .i64 0,.int .i64 8],
  [.int .i64 3,.str [105,110,116],.int .i64 0,.int .i64 10],
  [.int .i64 4,.str [59],.int .i64 0,.int .i64 13],
  [.int .i64 3,.str [102,117,110,99],.int .i64 0,.int .i64 15],
  [.int .i64 1,.str [109,97,105,110],.int .i64 0,.int .i64 20],
  [.int .i64 4,.str [40],.int .i64 0,.int .i64 24],
  [.int .i64 4,.str [41],.int .i64 0,.int .i64 25],
  [.int .i64 4,.str [123],.int .i64 0,.int .i64 27],
  [.int .i64 3,.str [105,102],.int .i64 0,.int .i64 29],
  [.int .i64 3,.str [116,114,117,101],.int .i64 0,.int .i64 32],
  [.int .i64 4,.str [123],.int .i64 0,.int .i64 37],
  [.int .i64 3,.str [105,102],.int .i64 0,.int .i64 39],
  [.int .i64 3,.str [116,114,117,101],.int .i64 0,.int .i64 42],
  [.int .i64 4,.str [123],.int .i64 0,.int .i64 47],
  [.int .i64 3,.str [105,102],.int .i64 0,.int .i64 49],
  [.int .i64 3,.str [116,114,117,101],.int .i64 0,.int .i64 52],
  [.int .i64 4,.str [123],.int .i64 0,.int .i64 57],
  [.int .i64 3,.str [105,102],.int .i64 0,.int .i64 59],
  [.int .i64 3,.str [116,114,117,101],.int .i64 0,.int .i64 62],
  [.int .i64 4,.str [123],.int .i64 0,.int .i64 67],
  [.int .i64 3,.str [105,102],.int .i64 0,.int .i64 69],
  [.int .i64 3,.str [116,114,117,101],.int .i64 0,.int .i64 72],
  [.int .i64 4,.str [123],.int .i64 0,.int .i64 77],
  [.int .i64 3,.str [112,114,105,110,116],.int .i64 0,.int .i64 79],
  [.int .i64 1,.str [120],.int .i64 0,.int .i64 85],
  [.int .i64 4,.str [59],.int .i64 0,.int .i64 86],
  [.int .i64 3,.str [108,101,116],.int .i64 0,.int .i64 88],
  [.int .i64 1,.str [120],.int .i64 0,.int .i64 92],
  [.int .i64 4,.str [58],.int .i64 0,.int .i64 93],
  [.int .i64 3,.str [105,110,116],.int .i64 0,.int .i64 95],
  [.int .i64 4,.str [61],.int .i64 0,.int .i64 99],
  [.int .i64 2,.str [],.int .i64 2,.int .i64 101],
  [.int .i64 4,.str [59],.int .i64 0,.int .i64 102],
  [.int .i64 4,.str [125],.int .i64 0,.int .i64 104],
  [.int .i64 4,.str [125],.int .i64 0,.int .i64 106],
  [.int .i64 4,.str [125],.int .i64 0,.int .i64 108],
  [.int .i64 4,.str [125],.int .i64 0,.int .i64 110],
  [.int .i64 4,.str [125],.int .i64 0,.int .i64 112],
  [.int .i64 3,.str [112,114,105,110,116],.int .i64 0,.int .i64 114],
  [.int .i64 1,.str [120],.int .i64 0,.int .i64 120],
  [.int .i64 4,.str [59],.int .i64 0,.int .i64 121],
  [.int .i64 4,.str [125],.int .i64 0,.int .i64 123],
  [.int .i64 0,.str [],.int .i64 0,.int .i64 124]], .agg [.int .i64 0, .int .i64 0]]
theorem tx5g_e : AV.tup [(tokV tx5g).1, .agg (tokV tx5g).2] = tx5gV := by kernel_rfl
theorem tx5g_ok (wl lim : Nat) (st : Store) : (orcL S).call wl lim 11 [.str tx5g] st = some (tx5gV, st) := by rw [tokens_ok, tx5g_e]
theorem ktx5g : says ((korcF S (ansF 8 [(11, tx5g, tx5gV)]) 800).call 0 0 5 [.int .i64 5, .bool true] []) = true := by kernel_rfl
theorem lawtx5g : (orcL S).call 0 0 5 [.int .i64 5, .bool true] [] = some (.bool true, []) :=
  call_kt (sf := s8) rfl rfl known0 (fun f s v hm wl lim st => by simp only [List.mem_singleton, Prod.mk.injEq] at hm; obtain ⟨rfl, rfl, rfl⟩ := hm; exact tx5g_ok wl lim st) ktx5g
end U2
