/- Part of a proof. -/
import Derived.Test.YtfhfpnnmcdgdkaaCode2
import Derived.KernelRfl
import Derived.Test.YtfhfpnnmcdgdkaaA6

namespace K9
open Ax Go Code8z
set_option maxRecDepth 100000
theorem known0 : (orcL S).call 0 0 8 [] [] = some (.bool true, []) := by
  have h : says ((korc S 400).call 0 0 8 [] []) = true := by kernel_rfl
  exact call_k (says_eq h)
end K9
