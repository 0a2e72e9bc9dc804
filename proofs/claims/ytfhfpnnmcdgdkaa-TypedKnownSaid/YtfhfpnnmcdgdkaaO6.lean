/- Part of a proof. -/
import Derived.Test.YtfhfpnnmcdgdkaaL
import Derived.Test.YtfhfpnnmcdgdkaaK
import Derived.Test.YtfhfpnnmcdgdkaaT

namespace U2
open Ax Go Code8
set_option maxRecDepth 100000
def tx6f : List UInt8 := [102,117,110,99,32,109,97,105,110,40,41,32,123,32,105,102,32,116,114,117,101,32,123,32,105,102,32,116,114,117,101,32,123,32,105,102,32,116,114,117,101,32,123,32,105,102,32,116,114,117,101,32,123,32,105,102,32,116,114,117,101,32,123,32,105,102,32,116,114,117,101,32,123,32,112,114,105,110,116,32,120,59,32,108,101,116,32,120,58,32,105,110,116,32,61,32,50,59,32,125,32,125,32,125,32,125,32,125,32,125,32,112,114,105,110,116,32,120,59,32,125]
def tx6fV : AV := .tup [.own 4 [[.int .i64 3,.str [102,117,110,99],.int .i64 0,.int .i64 0],
  [.int .i64 1,.str [109,97,105,110],.int .i64 0,.int .i64 5],
  [.int .i64 4,.str [40],.int .i64 0,.int .i64 9],
  [.int .i64 4,.str [41],.int .i64 0,.int .i64 10],
  [.int .i64 4,.str [123],.int .i64 0,.int .i64 12],
  [.int .i64 3,.str [105,102],.int .i64 0,.int .i64 14],
  [.int .i64 3,.str [116,114,117,101],.int .i64 0,.int .i64 17],
  [.int .i64 4,.str [123],.int .i64 0,.int .i64 22],
  [.int .i64 3,.str [105,102],.int .i64 0,.int .i64 24],
  [.int .i64 3,.str [116,114,117,101],.int .i64 0,.int .i64 27],
  [.int .i64 4,.str [123],.int .i64 0,.int .i64 32],
  [.int .i64 3,.str [105,102],.int .i64 0,.int .i64 34],
  [.int .i64 3,.str [116,114,117,101],.int .i64 0,.int .i64 37],
  [.int .i64 4,.str [123],.int .i64 0,.int .i64 42],
  [.int .i64 3,.str [105,102],.int .i64 0,.int .i64 44],
  [.int .i64 3,.str [116,114,117,101],.int .i64 0,.int .i64 47],
  [.int .i64 4,.str [123],.int .i64 0,.int .i64 52],
  [.int .i64 3,.str [105,102],.int .i64 0,.int .i64 54],
  [.int .i64 3,.str [116,114,117,101],.int .i64 0,.int .i64 57],
  [.int .i64 4,.str [123],.int .i64 0,.int .i64 62],
  [.int .i64 3,.str [105,102],.int .i64 0,.int .i64 64],
  [.int .i64 3,.str [116,114,117,101],.int .i64 0,.int .i64 67],
  [.int .i64 4,.str [123],.int .i64 0,.int .i64 72],
  [.int .i64 3,.str [112,114,105,110,116],.int .i64 0,.int .i64 74],
  [.int .i64 1,.str [120],.int .i64 0,.int .i64 80],
  [.int .i64 4,.str [59],.int .i64 0,.int .i64 81],
  [.int .i64 3,.str [108,101,116],.int .i64 0,.int .i64 83],
  [.int .i64 1,.str [120],.int .i64 0,.int .i64 87],
  [.int .i64 4,.str [58],.int .i64 0,.int .i64 88],
  [.int .i64 3,.str [105,110,116],.int .i64 0,.int .i64 90],
  [.int .i64 4,.str [61],.int .i64 0,.int .i64 94],
  [.int .i64 2,.str [],.int .i64 2,.int .i64 96],
  [.int .i64 4,.str [59],.int .i64 0,.int .i64 97],
  [.int .i64 4,.str [125],.int .i64 0,.int .i64 99],
  [.int .i64 4,.str [125],.int .i64 0,.int .i64 101],
  [.int .i64 4,.str [125],.int .i64 0,.int .i64 103],
  [.int .i64 4,.str [125],.int .i64 0,.int .i64 105],
  [.int .i64 4,.str [125],.int .i64 0,.int .i64 107],
  [.int .i64 4,.str [125],.int .i64 0,.int .i64 109],
  [.int .i64 3,.str [112,114,105,110,116],.int .i64 0,.int .i64 111],
  [.int .i64 1,.str [120],.int .i64 0,.int .i64 117],
  [.int .i64 4,.str [59],.int .i64 0,.int .i64 118],
  [.int .i64 4,.str [125],.int .i64 0,.int .i64 120],
  [.int .i64 0,.str [],.int .i64 0,.int .i64 121]], .agg [.int .i64 0, .int .i64 0]]
theorem tx6f_e : AV.tup [(tokV tx6f).1, .agg (tokV tx6f).2] = tx6fV := by kernel_rfl
theorem tx6f_ok (wl lim : Nat) (st : Store) : (orcL S).call wl lim 11 [.str tx6f] st = some (tx6fV, st) := by rw [tokens_ok, tx6f_e]
theorem ktx6f : says ((korcF S (ansF 8 [(11, tx6f, tx6fV)]) 800).call 0 0 5 [.int .i64 6, .bool false] []) = true := by kernel_rfl
theorem lawtx6f : (orcL S).call 0 0 5 [.int .i64 6, .bool false] [] = some (.bool true, []) :=
  call_kt (sf := s8) rfl rfl known0 (fun f s v hm wl lim st => by simp only [List.mem_singleton, Prod.mk.injEq] at hm; obtain ⟨rfl, rfl, rfl⟩ := hm; exact tx6f_ok wl lim st) ktx6f
def tx6g : List UInt8 := [103,108,111,98,97,108,32,120,58,32,105,110,116,59,32,102,117,110,99,32,109,97,105,110,40,41,32,123,32,105,102,32,116,114,117,101,32,123,32,105,102,32,116,114,117,101,32,123,32,105,102,32,116,114,117,101,32,123,32,105,102,32,116,114,117,101,32,123,32,105,102,32,116,114,117,101,32,123,32,105,102,32,116,114,117,101,32,123,32,112,114,105,110,116,32,120,59,32,108,101,116,32,120,58,32,105,110,116,32,61,32,50,59,32,125,32,125,32,125,32,125,32,125,32,125,32,112,114,105,110,116,32,120,59,32,125]
def tx6gV : AV := .tup [.own 4 [[.int .i64 3,.str [103,108,111,98,97,108],.int .i64 0,.int .i64 0],
  [.int .i64 1,.str [120],.int .i64 0,.int .i64 7],
  [.int .i64 4,.str [58],.int .i64 0,.int .i64 8],
  [.int .i64 3,.str [105,110,116],.int .i64 0,.int .i64 10],
  [.int .i64 4,.str [59],.int .i64 0,.int .i64 13],
  [.int .i64 3,.str [102,117,110,99],.int .i64 0,.int .i64 15],
  [.int .i64 1,.str [109,97,105,110],.int .i64 0,.int .i64 20],
  [.int .i64 4,.str [40],.int .i64 0,.int .i64 24],
  [.int .i64 4,.str [41],.int .i64 0,.int .i64 25],
  [.int .i64 4,.str [123],.int .i64 0,.int .i64 27],
  [.int .i64 3,.str [105,102],.int .i64 0,.int .i64 29],
  [.int .i64 3,.str [116,114,117,101],.int .i64 0,.int .i64 32],
  [.int .i64 4,.str [123],.int .i64 0,.int .i64 37],
  [.int .i64 3,.str [105,102],.int .i64 0,.int .i64 39],
  [.int .i64 3,.str [116,114,117,101],.int .i64 0,.int .i64 42],
  [.int .i64 4,.str [123],.int .i64 0,.int .i64 47],
  [.int .i64 3,.str [105,102],.int .i64 0,.int .i64 49],
  [.int .i64 3,.str [116,114,117,101],.int .i64 0,.int .i64 52],
  [.int .i64 4,.str [123],.int .i64 0,.int .i64 57],
  [.int .i64 3,.str [105,102],.int .i64 0,.int .i64 59],
  [.int .i64 3,.str [116,114,117,101],.int .i64 0,.int .i64 62],
  [.int .i64 4,.str [123],.int .i64 0,.int .i64 67],
  [.int .i64 3,.str [105,102],.int .i64 0,.int .i64 69],
  [.int .i64 3,.str [116,114,117,101],.int .i64 0,.int .i64 72],
  [.int .i64 4,.str [123],.int .i64 0,.int .i64 77],
  [.int .i64 3,.str [105,102],.int .i64 0,.int .i64 79],
  [.int .i64 3,.str [116,114,117,101],.int .i64 0,.int .i64 82],
  [.int .i64 4,.str [123],.int .i64 0,.int .i64 87],
  [.int .i64 3,.str [112,114,105,110,116],.int .i64 0,.int .i64 89],
  [.int .i64 1,.str [120],.int .i64 0,.int .i64 95],
  [.int .i64 4,.str [59],.int .i64 0,.int .i64 96],
  [.int .i64 3,.str [108,101,116],.int .i64 0,.int .i64 98],
  [.int .i64 1,.str [120],.int .i64 0,.int .i64 102],
  [.int .i64 4,.str [58],.int .i64 0,.int .i64 103],
  [.int .i64 3,.str [105,110,116],.int .i64 0,.int .i64 105],
  [.int .i64 4,.str [61],.int .i64 0,.int .i64 109],
  [.int .i64 2,.str [],.int .i64 2,.int .i64 111],
  [.int .i64 4,.str [59],.int .i64 0,.int .i64 112],
  [.int .i64 4,.str [125],.int .i64 0,.int .i64 114],
  [.int .i64 4,.str [125],.int .i64 0,.int .i64 116],
  [.int .i64 4,.str [125],.int .i64 0,.int .i64 118],
  [.int .i64 4,.str [125],.int .i64 0,.int .i64 120],
  [.int .i64 4,.str [125],.int .i64 0,.int .i64 122],
  [.int .i64 4,.str [125],.int .i64 0,.int .i64 124],
  [.int .i64 3,.str [112,114,105,110,116],.int .i64 0,.int .i64 126],
  [.int .i64 1,.str [120],.int .i64 0,.int .i64 132],
  [.int .i64 4,.str [59],.int .i64 0,.int .i64 133],
  [.int .i64 4,.str [125],.int .i64 0,.int .i64 135],
  [.int .i64 0,.str [],.int .i64 0,.int .i64 136]], .agg [.int .i64 0, .int .i64 0]]
theorem tx6g_e : AV.tup [(tokV tx6g).1, .agg (tokV tx6g).2] = tx6gV := by kernel_rfl
theorem tx6g_ok (wl lim : Nat) (st : Store) : (orcL S).call wl lim 11 [.str tx6g] st = some (tx6gV, st) := by rw [tokens_ok, tx6g_e]
theorem ktx6g : says ((korcF S (ansF 8 [(11, tx6g, tx6gV)]) 800).call 0 0 5 [.int .i64 6, .bool true] []) = true := by kernel_rfl
theorem lawtx6g : (orcL S).call 0 0 5 [.int .i64 6, .bool true] [] = some (.bool true, []) :=
  call_kt (sf := s8) rfl rfl known0 (fun f s v hm wl lim st => by simp only [List.mem_singleton, Prod.mk.injEq] at hm; obtain ⟨rfl, rfl, rfl⟩ := hm; exact tx6g_ok wl lim st) ktx6g
end U2
