/- Part of a proof. -/
import Derived.Test.YtegibojgmandmaaGreatCode2
import Derived.KernelRfl
import Derived.Test.YtegibojgmandmaaGreatA6

set_option maxRecDepth 100000
namespace K9
open Ax Go Code9z
theorem known0:(orcL S).call 0 0 9 [] []=some (.bool true,[]):=by
 have h:says ((korc S 400).call 0 0 9 [] [])=true:=by kernel_rfl
 exact call_k (says_eq h)
end K9
