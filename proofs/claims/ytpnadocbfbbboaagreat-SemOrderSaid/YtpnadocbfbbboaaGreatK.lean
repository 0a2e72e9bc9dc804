/- Part of a proof. -/
import Derived.Test.YtpnadocbfbbboaaGreatCode2
import Derived.KernelRfl
import Derived.Test.YtpnadocbfbbboaaGreatA6

set_option maxRecDepth 100000
namespace E11
open Ax Go Code11
theorem known0:(orcL S).call 0 0 14 [] []=some (.bool true,[]):=by
 have h:says ((korc S 400).call 0 0 14 [] [])=true:=by kernel_rfl
 exact call_k (says_eq h)
end E11
