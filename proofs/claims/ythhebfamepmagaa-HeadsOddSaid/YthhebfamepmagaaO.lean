/- Part of a proof. -/
import Derived.Test.YthhebfamepmagaaW

namespace U7
open Ax Go Code7
set_option maxRecDepth 100000
theorem odd1 : [0, 1, 2, 3, 4].all (fun k => says ((korc (ovr S 13) 400).call 0 0 7 [.int .i64 k] [])) = true := by kernel_rfl
theorem odd2 : [5, 6, 7, 8].all (fun k => says ((korc (ovr S 13) 400).call 0 0 7 [.int .i64 k] [])) = true := by kernel_rfl
theorem odd3 : [9, 10, 11, 12].all (fun k => says ((korc (ovr S 13) 400).call 0 0 7 [.int .i64 k] [])) = true := by kernel_rfl
end U7

namespace U7
open Ax Go Code7
set_option maxRecDepth 100000
theorem law_odd (n : Int) : (orcL S).call 0 0 7 [.int .i64 n] [] = some (.bool true, []) := by
  by_cases h0 : n < 0
  · exact odd_lo n h0
  by_cases h1 : 12 < n
  · exact odd_hi n h1
  have hn : n = 0 ∨ n = 1 ∨ n = 2 ∨ n = 3 ∨ n = 4 ∨ n = 5 ∨ n = 6 ∨ n = 7 ∨ n = 8 ∨ n = 9 ∨ n = 10 ∨ n = 11 ∨ n = 12 := by omega
  refine call_ko (n := 400) (sf := s13) rfl rfl known0 ?_
  rcases hn with h | h | h | h | h | h | h | h | h | h | h | h | h <;> subst h <;> first
    | (refine List.all_eq_true.1 odd1 _ ?_; simp; done)
    | (refine List.all_eq_true.1 odd2 _ ?_; simp; done)
    | (refine List.all_eq_true.1 odd3 _ ?_; simp; done)
end U7
