/-
  The law's known() by the kernel.
-/
import Derived.Test.YtachcambnjecnaaCode2
import Derived.KernelRfl
import Derived.Test.YtachcambnjecnaaA6

set_option maxRecDepth 100000
namespace U13
open Ax Go Code13
theorem known0:(orcL S).call 0 0 8 [] []=some (.bool true,[]):=by
 have h:says ((korc S 400).call 0 0 8 [] [])=true:=by kernel_rfl
 exact call_k (says_eq h)
theorem long0:(orcL S).call 0 0 5 [.int .i64 0] []=some (.bool true,[]):=by
 have h:says ((korc S 200).call 0 0 5 [.int .i64 0] [])=true:=by kernel_rfl
 exact call_k (says_eq h)
end U13
