/- Part of a proof. -/
import Derived.Test.YtlcehclecbakiaaGreatK
import Derived.Test.YtlcehclecbakiaaGreatO0
import Derived.Test.YtlcehclecbakiaaGreatO1
import Derived.Test.YtlcehclecbakiaaGreatO2
import Derived.Test.YtlcehclecbakiaaGreatO3
import Derived.Test.YtlcehclecbakiaaGreatO4
import Derived.Test.YtlcehclecbakiaaGreatO5
import Derived.Test.YtlcehclecbakiaaGreatO6
import Derived.Test.YtlcehclecbakiaaGreatO7
import Derived.Test.YtlcehclecbakiaaGreatO8
import Derived.Test.YtlcehclecbakiaaGreatO9
import Derived.Test.YtlcehclecbakiaaGreatO10
import Derived.Test.YtlcehclecbakiaaGreatO11

namespace U12
open Ax Go Code19
set_option maxRecDepth 100000
set_option maxHeartbeats 4000000
theorem kn_lo (n : Int) (h0 : n < 0) : (orcL S).call 0 0 5 [.int .i64 n] [] = some (.bool true, []) := by
  refine call_pure (sf := s5) rfl rfl (by simp) rfl (by simp) ?_
  simp [s5, h0]
theorem kn_hi (n : Int) (h0 : 11 < n) : (orcL S).call 0 0 5 [.int .i64 n] [] = some (.bool true, []) := by
  have h1 : ¬ n < 0 := by omega
  have h2 : ¬ n < 12 := by omega
  have h3 : (12 : Int) ≤ n := by omega
  refine call_pure (sf := s5) rfl rfl (by simp) rfl (by simp) ?_
  simp [s5, h1, h3]
end U12

namespace U2
open Ax Go Code19
theorem law_known (n : Int) : (orcL S).call 0 0 5 [.int .i64 n] [] = some (.bool true, []) := by
  by_cases h0 : n < 0
  · exact U12.kn_lo n h0
  by_cases h1 : 11 < n
  · exact U12.kn_hi n h1
  have hn : n = 0 ∨ n = 1 ∨ n = 2 ∨ n = 3 ∨ n = 4 ∨ n = 5 ∨ n = 6 ∨ n = 7 ∨ n = 8 ∨ n = 9 ∨ n = 10 ∨ n = 11 := by omega
  rcases hn with h | h | h | h | h | h | h | h | h | h | h | h <;> subst h
  · exact law0
  · exact law1
  · exact law2
  · exact law3
  · exact law4
  · exact law5
  · exact law6
  · exact law7
  · exact law8
  · exact law9
  · exact law10
  · exact law11
end U2
