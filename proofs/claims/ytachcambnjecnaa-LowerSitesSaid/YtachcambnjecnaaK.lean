/-
  The law's known() by the kernel.
-/
import Derived.Test.YtachcambnjecnaaCode2
import Derived.KernelRfl
import Derived.Test.YtachcambnjecnaaA6

set_option maxRecDepth 100000
namespace yB
open Ax Go cz
theorem Sp:(bg S).call 0 0 8 [] []=some (.bool true,[]):=by
 have h:YQ ((No S 400).call 0 0 8 [] [])=true:=by kernel_rfl
 exact YP (U4 h)
end yB
