/-
  The law's known() by the kernel.
-/
import Derived.Test.YtachcambnjecnaaCode2
import Derived.KernelRfl
import Derived.Test.YtachcambnjecnaaA6

set_option maxRecDepth 100000
namespace xD
open Ax Go cp
theorem Q1:(aW S).call 0 0 8 [] []=some (.bool true,[]):=by
 have h:Xg ((Mb S 400).call 0 0 8 [] [])=true:=by kernel_rfl
 exact Xf (TB h)
end xD
