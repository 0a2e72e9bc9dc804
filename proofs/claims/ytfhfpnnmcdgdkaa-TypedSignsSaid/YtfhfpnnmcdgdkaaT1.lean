/- Part of a proof. -/
import Derived.Test.YtfhfpnnmcdgdkaaS
import Derived.KernelRfl

namespace K9
set_option maxRecDepth 100000
theorem ts_0 : tsAll 0 = true := by kernel_rfl
theorem ts_1 : tsAll 1 = true := by kernel_rfl
theorem ts_2 : tsAll 2 = true := by kernel_rfl
end K9
