/- Part of a proof. -/
import Derived.Test.YthhebfamepmagaaCode2
import Derived.KernelRfl
import Derived.Test.YthhebfamepmagaaA6

namespace U7
open Ax Go Code7
set_option maxRecDepth 100000
theorem known0 : (orcL S).call 0 0 13 [] [] = some (.bool true, []) := by
  have h : says ((korc S 300).call 0 0 13 [] []) = true := by kernel_rfl
  exact call_k (says_eq h)
theorem dims_in : ∀ k : Nat, k < 14 → ∀ b, (orcL S).call 0 0 8 [.int .i64 ((k : Int) - 3), .bool b] [] = some (.bool true, []) := by
  have h : (List.range 14).all (fun (k : Nat) => [true, false].all fun b => says ((korc (ovr S 13) 100).call 0 0 8 [.int .i64 ((k : Int) - 3), .bool b] [])) = true := by kernel_rfl
  intro k hk b
  have h1 := List.all_eq_true.1 h k (List.mem_range.2 hk)
  have h2 := List.all_eq_true.1 h1 b (by cases b <;> simp)
  exact call_ko (sf := s13) rfl rfl known0 h2
end U7
