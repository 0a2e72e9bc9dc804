/- Part of a proof. -/
import Derived.Test.YtegibojgmandmaaGreatCode2
import Derived.Test.YtegibojgmandmaaGreatA6
import Derived.Test.YtegibojgmandmaaGreatRows

set_option maxRecDepth 100000
namespace Go.Proofs.YtegibojgmandmaaGreat
open Ax
theorem tab:MTab Code9z.S Tryz.prog:=mtab_of (by kernel_rfl) (by kernel_rfl)
theorem hom:Home Code9z.S Tryz.checked [3,4,9]:=⟨by kernel_rfl,tab,kids_rows (by kernel_rfl) (by kernel_rfl),slices_full_of Tryz.prog (by kernel_rfl),by kernel_rfl⟩
end Go.Proofs.YtegibojgmandmaaGreat
namespace Go.Proofs.YtegibojgmandmaaGreat
open Ax
theorem u3:Tryz.prog.underlying 3=some (.int .i64):=by kernel_rfl
theorem u9:Tryz.prog.underlying 9=some .string:=by kernel_rfl
theorem ty3 {a:AV}(h:TyV Tryz.prog 3 a):∃n,a=.int .i64 n:=by
 obtain⟨n,e,_,_⟩:=ty_int u3 (tyV_one (fun fs h=>by rw[u3]at h;cases h) h)
 cases e
 exact⟨n,rfl⟩
theorem ty9 {a:AV}(h:TyV Tryz.prog 9 a):∃s,a=.str s:=by
 obtain⟨s,e,_⟩:=ty_str u9 (tyV_one (fun fs h=>by rw[u9]at h;cases h) h)
 cases e
 exact⟨s,rfl⟩
end Go.Proofs.YtegibojgmandmaaGreat
