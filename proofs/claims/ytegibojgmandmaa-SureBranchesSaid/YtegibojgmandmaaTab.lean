/- Part of a proof. -/
import Derived.Test.YtegibojgmandmaaCode2
import Derived.Test.YtegibojgmandmaaA6
import Derived.Test.YtegibojgmandmaaRows

set_option maxRecDepth 100000
namespace Go.Proofs.Ytegibojgmandmaa
open Ax
theorem tab:MTab Code9.S Try.prog:=mtab_of (by kernel_rfl) (by kernel_rfl)
theorem hom:Home Code9.S Try.checked [3,4,9,37]:=⟨by kernel_rfl,tab,kids_rows (by kernel_rfl) (by kernel_rfl),slices_full_of Try.prog (by kernel_rfl),by kernel_rfl⟩
end Go.Proofs.Ytegibojgmandmaa
namespace Go.Proofs.Ytegibojgmandmaa
open Ax
theorem u3:Try.prog.underlying 3=some (.int .i64):=by kernel_rfl
theorem u4:Try.prog.underlying 4=some .bool:=by kernel_rfl
theorem ty3 {a:AV}(h:TyV Try.prog 3 a):∃n,a=.int .i64 n:=by
 obtain⟨n,e,_,_⟩:=ty_int u3 (tyV_one (fun fs h=>by rw[u3]at h;cases h) h)
 cases e
 exact⟨n,rfl⟩
end Go.Proofs.Ytegibojgmandmaa
