/- Part of a proof. -/
import Derived.Test.YtlcehclecbakiaaGreatCode2
import Derived.Test.YtlcehclecbakiaaGreatA6
import Derived.Test.YtlcehclecbakiaaGreatRows

set_option maxRecDepth 100000
namespace Go.Proofs.YtlcehclecbakiaaGreat
open Ax
theorem tab:KX aF.S Tryz.prog:=Y3 (by kernel_rfl) (by kernel_rfl)
theorem hom:ahI aF.S Tryz.checked [3,4,9]:=⟨by kernel_rfl,tab,kids_rows (by kernel_rfl) (by kernel_rfl),slices_full_of Tryz.prog (by kernel_rfl),by kernel_rfl⟩
end Go.Proofs.YtlcehclecbakiaaGreat
namespace Go.Proofs.YtlcehclecbakiaaGreat
open Ax
theorem u9:Tryz.prog.underlying 9=some .string:=by kernel_rfl
theorem ty9{a:AV}(h:TyV Tryz.prog 9 a):∃s,a=.str s:=by
 obtain⟨s,e,_⟩:=adu u9 (Zt (λfs h=>by rw[u9]at h;cases h) h);cases e;exact⟨s,rfl⟩
end Go.Proofs.YtlcehclecbakiaaGreat
