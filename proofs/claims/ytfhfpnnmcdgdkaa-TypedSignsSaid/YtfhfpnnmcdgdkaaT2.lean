/- Part of a proof. -/
import Derived.Test.YtfhfpnnmcdgdkaaS
import Derived.KernelRfl

namespace K9
set_option maxRecDepth 100000
theorem ts_3 : tsAll 3 = true := by kernel_rfl
theorem ts_4 : tsAll 4 = true := by kernel_rfl
theorem ts_5 : tsAll 5 = true := by kernel_rfl
end K9
