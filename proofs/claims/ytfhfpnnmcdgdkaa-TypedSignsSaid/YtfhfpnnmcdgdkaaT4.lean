/- Part of a proof. -/
import Derived.Test.YtfhfpnnmcdgdkaaS
import Derived.KernelRfl
import Derived.Test.YtfhfpnnmcdgdkaaT1
import Derived.Test.YtfhfpnnmcdgdkaaT2
import Derived.Test.YtfhfpnnmcdgdkaaT3

namespace K9
set_option maxRecDepth 100000
theorem ts_9 : tsAll 9 = true := by kernel_rfl
theorem ts_10 : tsAll 10 = true := by kernel_rfl
end K9

namespace K9
theorem ts_all (n : Nat) (h : n < 11) : tsAll n = true := by
  match n, h with
  | 0, _ => exact ts_0
  | 1, _ => exact ts_1
  | 2, _ => exact ts_2
  | 3, _ => exact ts_3
  | 4, _ => exact ts_4
  | 5, _ => exact ts_5
  | 6, _ => exact ts_6
  | 7, _ => exact ts_7
  | 8, _ => exact ts_8
  | 9, _ => exact ts_9
  | 10, _ => exact ts_10
end K9
