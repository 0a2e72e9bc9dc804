/- Part of a proof. -/
import Derived.Test.YtegibojgmandmaaCode1
import Derived.Test.YtegibojgmandmaaA6
import Derived.Test.YtegibojgmandmaaO0
import Derived.Test.YtegibojgmandmaaO1
import Derived.Test.YtegibojgmandmaaO2
import Derived.Test.YtegibojgmandmaaO3
import Derived.Test.YtegibojgmandmaaO4
import Derived.Test.YtegibojgmandmaaO5
import Derived.Test.YtegibojgmandmaaO6
import Derived.Test.YtegibojgmandmaaO7
import Derived.Test.YtegibojgmandmaaO8
import Derived.Test.YtegibojgmandmaaO9
import Derived.Test.YtegibojgmandmaaO10
import Derived.Test.YtegibojgmandmaaO11
import Derived.Test.YtegibojgmandmaaO12
import Derived.Test.YtegibojgmandmaaO13

namespace U2
open Ax Go Code9
set_option maxRecDepth 100000
set_option maxHeartbeats 4000000
theorem kn_lo (n : Int) (h0 : n < 0) : (orcL S).call 0 0 3 [.int .i64 n] [] = some (.bool true, []) := by
  refine call_pure (sf := s3) rfl rfl (by simp) rfl (by simp) ?_
  simp [s3, h0]
theorem kn_hi (n : Int) (h0 : 13 < n) : (orcL S).call 0 0 3 [.int .i64 n] [] = some (.bool true, []) := by
  have h1 : ¬ n < 0 := by omega
  have h2 : ¬ n < 14 := by omega
  have h3 : (14 : Int) ≤ n := by omega
  refine call_pure (sf := s3) rfl rfl (by simp) rfl (by simp) ?_
  simp [s3, h1, h3]
end U2

namespace U2
open Ax Go Code9
theorem law_odd (n : Int) : (orcL S).call 0 0 3 [.int .i64 n] [] = some (.bool true, []) := by
  by_cases h0 : n < 0
  · exact kn_lo n h0
  by_cases h1 : 13 < n
  · exact kn_hi n h1
  have hn : n = 0 ∨ n = 1 ∨ n = 2 ∨ n = 3 ∨ n = 4 ∨ n = 5 ∨ n = 6 ∨ n = 7 ∨ n = 8 ∨ n = 9 ∨ n = 10 ∨ n = 11 ∨ n = 12 ∨ n = 13 := by omega
  rcases hn with h | h | h | h | h | h | h | h | h | h | h | h | h | h <;> subst h
  · exact lawtx0
  · exact lawtx1
  · exact lawtx2
  · exact lawtx3
  · exact lawtx4
  · exact lawtx5
  · exact lawtx6
  · exact lawtx7
  · exact lawtx8
  · exact lawtx9
  · exact lawtx10
  · exact lawtx11
  · exact lawtx12
  · exact lawtx13
end U2
