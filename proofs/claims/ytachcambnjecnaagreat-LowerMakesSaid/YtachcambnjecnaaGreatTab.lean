/- Part of a proof. -/
import Derived.Test.YtachcambnjecnaaGreatCode2
import Derived.Test.YtachcambnjecnaaGreatA6
import Derived.Test.YtachcambnjecnaaGreatRows

set_option maxRecDepth 100000
namespace Go.Proofs.YtachcambnjecnaaGreat
open Ax
theorem tab:Jh bu.S Tryz.prog:=US (by kernel_rfl) (by kernel_rfl)
theorem hom:ado bu.S Tryz.checked [3,4,9]:=⟨by kernel_rfl,tab,kids_rows (by kernel_rfl) (by kernel_rfl),slices_full_of Tryz.prog (by kernel_rfl),by kernel_rfl⟩
end Go.Proofs.YtachcambnjecnaaGreat
namespace Go.Proofs.YtachcambnjecnaaGreat
open Ax
theorem u9:Tryz.prog.underlying 9=some .string:=by kernel_rfl
theorem ty9{a:AV}(h:TyV Tryz.prog 9 a):∃s,a=.str s:=by
 obtain⟨s,e,_⟩:=Zi u9 (Vm (λfs h=>by rw[u9]at h;cases h) h);cases e;exact⟨s,rfl⟩
end Go.Proofs.YtachcambnjecnaaGreat
