/- Part of a proof. -/
import Derived.Test.YtfhfpnnmcdgdkaaCode2
import Derived.Test.YtfhfpnnmcdgdkaaA6
import Derived.Test.YtfhfpnnmcdgdkaaO0
import Derived.Test.YtfhfpnnmcdgdkaaO1
import Derived.Test.YtfhfpnnmcdgdkaaO2
import Derived.Test.YtfhfpnnmcdgdkaaO3
import Derived.Test.YtfhfpnnmcdgdkaaO4
import Derived.Test.YtfhfpnnmcdgdkaaO5
import Derived.Test.YtfhfpnnmcdgdkaaO6
import Derived.Test.YtfhfpnnmcdgdkaaO7
import Derived.Test.YtfhfpnnmcdgdkaaO8
import Derived.Test.YtfhfpnnmcdgdkaaO9
import Derived.Test.YtfhfpnnmcdgdkaaO10

namespace U2
open Ax Go Code8
set_option maxRecDepth 100000
set_option maxHeartbeats 4000000
theorem kn_lo (n : Int) (b : Bool) (h0 : n < 0) : (orcL S).call 0 0 5 [.int .i64 n, .bool b] [] = some (.bool true, []) := by
  refine call_pure (sf := s5) rfl rfl (by simp) rfl (by simp) ?_
  simp [s5, h0]
theorem kn_hi (n : Int) (b : Bool) (h0 : 10 < n) : (orcL S).call 0 0 5 [.int .i64 n, .bool b] [] = some (.bool true, []) := by
  have h1 : ¬ n < 0 := by omega
  refine call_pure (sf := s5) rfl rfl (by simp) rfl (by simp) ?_
  simp [s5, h1, h0]
end U2

namespace U2
open Ax Go Code8
theorem law_known (n : Int) (b : Bool) : (orcL S).call 0 0 5 [.int .i64 n, .bool b] [] = some (.bool true, []) := by
  by_cases h0 : n < 0
  · exact kn_lo n b h0
  by_cases h1 : 10 < n
  · exact kn_hi n b h1
  have hn : n = 0 ∨ n = 1 ∨ n = 2 ∨ n = 3 ∨ n = 4 ∨ n = 5 ∨ n = 6 ∨ n = 7 ∨ n = 8 ∨ n = 9 ∨ n = 10 := by omega
  rcases hn with h | h | h | h | h | h | h | h | h | h | h <;> subst h <;> cases b
  · exact lawtx0f
  · exact lawtx0g
  · exact lawtx1f
  · exact lawtx1g
  · exact lawtx2f
  · exact lawtx2g
  · exact lawtx3f
  · exact lawtx3g
  · exact lawtx4f
  · exact lawtx4g
  · exact lawtx5f
  · exact lawtx5g
  · exact lawtx6f
  · exact lawtx6g
  · exact lawtx7f
  · exact lawtx7g
  · exact lawtx8f
  · exact lawtx8g
  · exact lawtx9f
  · exact lawtx9g
  · exact lawtx10f
  · exact lawtx10g
end U2
