/- Part of a proof. -/
import Derived.Test.YteicnmliccdgeaaCode
import Derived.Test.YteicnmliccdgeaaA5
import Derived.Test.YteicnmliccdgeaaRows

namespace Go.Proofs.Yteicnmliccdgeaa
open Ax
set_option maxRecDepth 100000
theorem tab : MTab Code22.S Try.prog := mtab_of (by kernel_rfl) (by kernel_rfl)
end Go.Proofs.Yteicnmliccdgeaa
