/- Part of a proof. -/
import Derived.Test.YtfhfpnnmcdgdkaaL
import Derived.Test.YtfhfpnnmcdgdkaaK
import Derived.Test.YtfhfpnnmcdgdkaaT

namespace U2
open Ax Go Code8
set_option maxRecDepth 100000
def tx3f : List UInt8 := [102,117,110,99,32,109,97,105,110,40,41,32,123,32,105,102,32,116,114,117,101,32,123,32,105,102,32,116,114,117,101,32,123,32,105,102,32,116,114,117,101,32,123,32,112,114,105,110,116,32,120,59,32,108,101,116,32,120,58,32,105,110,116,32,61,32,50,59,32,125,32,125,32,125,32,112,114,105,110,116,32,120,59,32,125]
def tx3fV : AV := .tup [.own 4 [[.int .i64 3,.str [102,117,110,99],.int .i64 0,.int .i64 0],
  [.int .i64 1,.str [109,97,105,110],.int .i64 0,.int .i64 5],
  [.int .i64 4,.str [40],.int .i64 0,.int .i64 9],
  [.int .i64 4,.str [41],.int .i64 0,.int .i64 10],
  [.int .i64 4,.str [123],.int .i64 0,.int .i64 12],
  [.int .i64 3,.str [105,102],.int .i64 0,.int .i64 14],
  [.int .i64 3,.str [116,114,117,101],.int .i64 0,.int .i64 17],
  [.int .i64 4,.str [123],.int .i64 0,.int .i64 22],
  [.int .i64 3,.str [105,102],.int .i64 0,.int .i64 24],
  [.int .i64 3,.str [116,114,117,101],.int .i64 0,.int .i64 27],
  [.int .i64 4,.str [123],.int .i64 0,.int .i64 32],
  [.int .i64 3,.str [105,102],.int .i64 0,.int .i64 34],
  [.int .i64 3,.str [116,114,117,101],.int .i64 0,.int .i64 37],
  [.int .i64 4,.str [123],.int .i64 0,.int .i64 42],
  [.int .i64 3,.str [112,114,105,110,116],.int .i64 0,.int .i64 44],
  [.int .i64 1,.str [120],.int .i64 0,.int .i64 50],
  [.int .i64 4,.str [59],.int .i64 0,.int .i64 51],
  [.int .i64 3,.str [108,101,116],.int .i64 0,.int .i64 53],
  [.int .i64 1,.str [120],.int .i64 0,.int .i64 57],
  [.int .i64 4,.str [58],.int .i64 0,.int .i64 58],
  [.int .i64 3,.str [105,110,116],.int .i64 0,.int .i64 60],
  [.int .i64 4,.str [61],.int .i64 0,.int .i64 64],
  [.int .i64 2,.str [],.int .i64 2,.int .i64 66],
  [.int .i64 4,.str [59],.int .i64 0,.int .i64 67],
  [.int .i64 4,.str [125],.int .i64 0,.int .i64 69],
  [.int .i64 4,.str [125],.int .i64 0,.int .i64 71],
  [.int .i64 4,.str [125],.int .i64 0,.int .i64 73],
  [.int .i64 3,.str [112,114,105,110,116],.int .i64 0,.int .i64 75],
  [.int .i64 1,.str [120],.int .i64 0,.int .i64 81],
  [.int .i64 4,.str [59],.int .i64 0,.int .i64 82],
  [.int .i64 4,.str [125],.int .i64 0,.int .i64 84],
  [.int .i64 0,.str [],.int .i64 0,.int .i64 85]], .agg [.int .i64 0, .int .i64 0]]
theorem tx3f_e : AV.tup [(tokV tx3f).1, .agg (tokV tx3f).2] = tx3fV := by kernel_rfl
theorem tx3f_ok (wl lim : Nat) (st : Store) : (orcL S).call wl lim 11 [.str tx3f] st = some (tx3fV, st) := by rw [tokens_ok, tx3f_e]
theorem ktx3f : says ((korcF S (ansF 8 [(11, tx3f, tx3fV)]) 800).call 0 0 5 [.int .i64 3, .bool false] []) = true := by kernel_rfl
theorem lawtx3f : (orcL S).call 0 0 5 [.int .i64 3, .bool false] [] = some (.bool true, []) :=
  call_kt (sf := s8) rfl rfl known0 (fun f s v hm wl lim st => by simp only [List.mem_singleton, Prod.mk.injEq] at hm; obtain ⟨rfl, rfl, rfl⟩ := hm; exact tx3f_ok wl lim st) ktx3f
def tx3g : List UInt8 := [103,108,111,98,97,108,32,120,58,32,105,110,116,59,32,102,117,110,99,32,109,97,105,110,40,41,32,123,32,105,102,32,116,114,117,101,32,123,32,105,102,32,116,114,117,101,32,123,32,105,102,32,116,114,117,101,32,123,32,112,114,105,110,116,32,120,59,32,108,101,116,32,120,58,32,105,110,116,32,61,32,50,59,32,125,32,125,32,125,32,112,114,105,110,116,32,120,59,32,125]
def tx3gV : AV := .tup [.own 4 [[.int .i64 3,.str [103,108,111,98,97,108],.int .i64 0,.int .i64 0],
  [.int .i64 1,.str [120],.int .i64 0,.int .i64 7],
  [.int .i64 4,.str [58],.int .i64 0,.int .i64 8],
  [.int .i64 3,.str [105,110,116],.int .i64 0,.int .i64 10],
  [.int .i64 4,.str [59],.int .i64 0,.int .i64 13],
  [.int .i64 3,.str [102,117,110,99],.int .i64 0,.int .i64 15],
  [.int .i64 1,.str [109,97,105,110],.int .i64 0,.int .i64 20],
  [.int .i64 4,.str [40],.int .i64 0,.int .i64 24],
  [.int .i64 4,.str [41],.int .i64 0,.int .i64 25],
  [.int .i64 4,.str [123],.int .i64 0,.int .i64 27],
  [.int .i64 3,.str [105,102],.int .i64 0,.int .i64 29],
  [.int .i64 3,.str [116,114,117,101],.int .i64 0,.int .i64 32],
  [.int .i64 4,.str [123],.int .i64 0,.int .i64 37],
  [.int .i64 3,.str [105,102],.int .i64 0,.int .i64 39],
  [.int .i64 3,.str [116,114,117,101],.int .i64 0,.int .i64 42],
  [.int .i64 4,.str [123],.int .i64 0,.int .i64 47],
  [.int .i64 3,.str [105,102],.int .i64 0,.int .i64 49],
  [.int .i64 3,.str [116,114,117,101],.int .i64 0,.int .i64 52],
  [.int .i64 4,.str [123],.int .i64 0,.int .i64 57],
  [.int .i64 3,.str [112,114,105,110,116],.int .i64 0,.int .i64 59],
  [.int .i64 1,.str [120],.int .i64 0,.int .i64 65],
  [.int .i64 4,.str [59],.int .i64 0,.int .i64 66],
  [.int .i64 3,.str [108,101,116],.int .i64 0,.int .i64 68],
  [.int .i64 1,.str [120],.int .i64 0,.int .i64 72],
  [.int .i64 4,.str [58],.int .i64 0,.int .i64 73],
  [.int .i64 3,.str [105,110,116],.int .i64 0,.int .i64 75],
  [.int .i64 4,.str [61],.int .i64 0,.int .i64 79],
  [.int .i64 2,.str [],.int .i64 2,.int .i64 81],
  [.int .i64 4,.str [59],.int .i64 0,.int .i64 82],
  [.int .i64 4,.str [125],.int .i64 0,.int .i64 84],
  [.int .i64 4,.str [125],.int .i64 0,.int .i64 86],
  [.int .i64 4,.str [125],.int .i64 0,.int .i64 88],
  [.int .i64 3,.str [112,114,105,110,116],.int .i64 0,.int .i64 90],
  [.int .i64 1,.str [120],.int .i64 0,.int .i64 96],
  [.int .i64 4,.str [59],.int .i64 0,.int .i64 97],
  [.int .i64 4,.str [125],.int .i64 0,.int .i64 99],
  [.int .i64 0,.str [],.int .i64 0,.int .i64 100]], .agg [.int .i64 0, .int .i64 0]]
theorem tx3g_e : AV.tup [(tokV tx3g).1, .agg (tokV tx3g).2] = tx3gV := by kernel_rfl
theorem tx3g_ok (wl lim : Nat) (st : Store) : (orcL S).call wl lim 11 [.str tx3g] st = some (tx3gV, st) := by rw [tokens_ok, tx3g_e]
theorem ktx3g : says ((korcF S (ansF 8 [(11, tx3g, tx3gV)]) 800).call 0 0 5 [.int .i64 3, .bool true] []) = true := by kernel_rfl
theorem lawtx3g : (orcL S).call 0 0 5 [.int .i64 3, .bool true] [] = some (.bool true, []) :=
  call_kt (sf := s8) rfl rfl known0 (fun f s v hm wl lim st => by simp only [List.mem_singleton, Prod.mk.injEq] at hm; obtain ⟨rfl, rfl, rfl⟩ := hm; exact tx3g_ok wl lim st) ktx3g
end U2
