/- Part of a proof. -/
import Derived.Test.YtegibojgmandmaaCode2
import Derived.KernelRfl
import Derived.Test.YtegibojgmandmaaA6

set_option maxRecDepth 100000
namespace U2
open Ax Go Code9
theorem known0:(orcL S).call 0 0 7 [] []=some (.bool true,[]):=by
 have h:says ((korc S 400).call 0 0 7 [] [])=true:=by kernel_rfl
 exact call_k (says_eq h)
end U2
