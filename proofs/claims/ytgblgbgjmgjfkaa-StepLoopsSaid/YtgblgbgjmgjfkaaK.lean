/- Part of a proof. -/
import Derived.Test.YtgblgbgjmgjfkaaCode1
import Derived.KernelRfl
import Derived.Test.YtgblgbgjmgjfkaaA6

set_option maxRecDepth 100000
namespace E14
open Ax Go Code14
theorem known0:(orcL S).call 0 0 8 [] []=some (.bool true,[]):=by
 have h:says ((korc S 200).call 0 0 8 [] [])=true:=by kernel_rfl
 exact call_k (says_eq h)
end E14
