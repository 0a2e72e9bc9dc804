/- Part of a proof. -/
import Derived.Test.YtlcehclecbakiaaGreatL
import Derived.Test.YtlcehclecbakiaaGreatK
import Derived.Test.YtlcehclecbakiaaGreatT

namespace U2
open Ax Go Code19
set_option maxRecDepth 100000
def tx0 : List UInt8 := [114,101,99,111,114,100,32,82,32,123,32,97,58,32,105,110,116,59,32,110,58,32,82,59,32,125,32,103,108,111,98,97,108,32,103,58,32,82,59,32,102,117,110,99,32,102,40,114,58,32,82,44,32,107,58,32,105,110,116,41,58,32,82,32,123,32,114,101,116,117,114,110,32,114,59,32,125,32,102,117,110,99,32,109,97,105,110,40,41,32,123,32,108,101,116,32,114,58,32,82,32,61,32,110,117,108,108,32,82,59,32,32,125]
def tx0V : AV := .tup [.own 4 [[.int .i64 3,.str [114,101,99,111,114,100],.int .i64 0,.int .i64 0],
  [.int .i64 1,.str [82],.int .i64 0,.int .i64 7],
  [.int .i64 4,.str [123],.int .i64 0,.int .i64 9],
  [.int .i64 1,.str [97],.int .i64 0,.int .i64 11],
  [.int .i64 4,.str [58],.int .i64 0,.int .i64 12],
  [.int .i64 3,.str [105,110,116],.int .i64 0,.int .i64 14],
  [.int .i64 4,.str [59],.int .i64 0,.int .i64 17],
  [.int .i64 1,.str [110],.int .i64 0,.int .i64 19],
  [.int .i64 4,.str [58],.int .i64 0,.int .i64 20],
  [.int .i64 1,.str [82],.int .i64 0,.int .i64 22],
  [.int .i64 4,.str [59],.int .i64 0,.int .i64 23],
  [.int .i64 4,.str [125],.int .i64 0,.int .i64 25],
  [.int .i64 3,.str [103,108,111,98,97,108],.int .i64 0,.int .i64 27],
  [.int .i64 1,.str [103],.int .i64 0,.int .i64 34],
  [.int .i64 4,.str [58],.int .i64 0,.int .i64 35],
  [.int .i64 1,.str [82],.int .i64 0,.int .i64 37],
  [.int .i64 4,.str [59],.int .i64 0,.int .i64 38],
  [.int .i64 3,.str [102,117,110,99],.int .i64 0,.int .i64 40],
  [.int .i64 1,.str [102],.int .i64 0,.int .i64 45],
  [.int .i64 4,.str [40],.int .i64 0,.int .i64 46],
  [.int .i64 1,.str [114],.int .i64 0,.int .i64 47],
  [.int .i64 4,.str [58],.int .i64 0,.int .i64 48],
  [.int .i64 1,.str [82],.int .i64 0,.int .i64 50],
  [.int .i64 4,.str [44],.int .i64 0,.int .i64 51],
  [.int .i64 1,.str [107],.int .i64 0,.int .i64 53],
  [.int .i64 4,.str [58],.int .i64 0,.int .i64 54],
  [.int .i64 3,.str [105,110,116],.int .i64 0,.int .i64 56],
  [.int .i64 4,.str [41],.int .i64 0,.int .i64 59],
  [.int .i64 4,.str [58],.int .i64 0,.int .i64 60],
  [.int .i64 1,.str [82],.int .i64 0,.int .i64 62],
  [.int .i64 4,.str [123],.int .i64 0,.int .i64 64],
  [.int .i64 3,.str [114,101,116,117,114,110],.int .i64 0,.int .i64 66],
  [.int .i64 1,.str [114],.int .i64 0,.int .i64 73],
  [.int .i64 4,.str [59],.int .i64 0,.int .i64 74],
  [.int .i64 4,.str [125],.int .i64 0,.int .i64 76],
  [.int .i64 3,.str [102,117,110,99],.int .i64 0,.int .i64 78],
  [.int .i64 1,.str [109,97,105,110],.int .i64 0,.int .i64 83],
  [.int .i64 4,.str [40],.int .i64 0,.int .i64 87],
  [.int .i64 4,.str [41],.int .i64 0,.int .i64 88],
  [.int .i64 4,.str [123],.int .i64 0,.int .i64 90],
  [.int .i64 3,.str [108,101,116],.int .i64 0,.int .i64 92],
  [.int .i64 1,.str [114],.int .i64 0,.int .i64 96],
  [.int .i64 4,.str [58],.int .i64 0,.int .i64 97],
  [.int .i64 1,.str [82],.int .i64 0,.int .i64 99],
  [.int .i64 4,.str [61],.int .i64 0,.int .i64 101],
  [.int .i64 3,.str [110,117,108,108],.int .i64 0,.int .i64 103],
  [.int .i64 1,.str [82],.int .i64 0,.int .i64 108],
  [.int .i64 4,.str [59],.int .i64 0,.int .i64 109],
  [.int .i64 4,.str [125],.int .i64 0,.int .i64 112],
  [.int .i64 0,.str [],.int .i64 0,.int .i64 113]], .agg [.int .i64 0, .int .i64 0]]
theorem tx0_e : AV.tup [(tokV tx0).1, .agg (tokV tx0).2] = tx0V := by kernel_rfl
theorem tx0_ok (wl lim : Nat) (st : Store) : (orcL S).call wl lim 31 [.str tx0] st = some (tx0V, st) := by rw [tokens_ok, tx0_e]
theorem kn0 : says ((korcF S (ansF 14 [(31, tx0, tx0V)]) 800).call 0 0 5 [.int .i64 0] []) = true := by kernel_rfl
theorem law0 : (orcL S).call 0 0 5 [.int .i64 0] [] = some (.bool true, []) :=
  call_kt (sf := s14) rfl rfl U12.known0 (fun f s v hm wl lim st => by simp only [List.mem_singleton, Prod.mk.injEq] at hm; obtain ⟨rfl, rfl, rfl⟩ := hm; exact tx0_ok wl lim st) kn0
end U2
