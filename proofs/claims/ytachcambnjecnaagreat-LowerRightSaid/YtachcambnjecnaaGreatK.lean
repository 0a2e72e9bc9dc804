/-
  The law's known() by the kernel.
-/
import Derived.Test.YtachcambnjecnaaGreatCode2
import Derived.KernelRfl
import Derived.Test.YtachcambnjecnaaGreatA6

set_option maxRecDepth 100000
namespace yb
open Ax Go aT
theorem ZD:(aU S).call 0 0 9 [] []=some (.bool true,[]):=by
 have h:X1 ((Mu S 400).call 0 0 9 [] [])=true:=by kernel_rfl
 exact XZ (Uh h)
end yb
