/- Part of a proof. -/
import Derived.Test.YtfhfpnnmcdgdkaaS
import Derived.KernelRfl

namespace K9
set_option maxRecDepth 100000
theorem ts_6 : tsAll 6 = true := by kernel_rfl
theorem ts_7 : tsAll 7 = true := by kernel_rfl
theorem ts_8 : tsAll 8 = true := by kernel_rfl
end K9
