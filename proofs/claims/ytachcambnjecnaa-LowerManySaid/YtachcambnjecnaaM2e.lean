/-
  More than may be: reckoned by the kernel.
-/
import Derived.Test.YtachcambnjecnaaCode2
import Derived.KernelRfl
import Derived.Test.YtachcambnjecnaaA6

set_option maxRecDepth 100000
namespace U13
open Ax Go Code13
theorem many2_13:((List.range 2).all fun n=>says ((korc S 200).call 0 0 3 [.int .i64 2,.int .i64 ((n+13:Nat):Int)] []))=true:=by kernel_rfl
end U13
