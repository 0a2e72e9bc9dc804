/- Part of a proof. -/
import Derived.Test.YtlcehclecbakiaaGreatCode2
import Derived.KernelRfl
import Derived.Test.YtlcehclecbakiaaGreatA6

namespace U12
open Ax Go Code19
set_option maxRecDepth 100000
theorem known0 : (orcL S).call 0 0 14 [] [] = some (.bool true, []) := by
  have h : says ((korc S 300).call 0 0 14 [] []) = true := by kernel_rfl
  exact call_k (says_eq h)
end U12
