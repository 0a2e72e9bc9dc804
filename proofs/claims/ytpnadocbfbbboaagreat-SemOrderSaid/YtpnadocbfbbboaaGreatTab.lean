/- Part of a proof. -/
import Derived.Test.YtpnadocbfbbboaaGreatCode2
import Derived.Test.YtpnadocbfbbboaaGreatA6
import Derived.Test.YtpnadocbfbbboaaGreatRows
import Derived.Test.YtpnadocbfbbboaaGreatP

set_option maxRecDepth 100000
namespace Go.Proofs.YtpnadocbfbbboaaGreat
open Ax
theorem tab:MTab Code11.S Tryz.prog:=mtab_of (by kernel_rfl) (by kernel_rfl)
theorem hom:Home Code11.S Tryz.checked [3,4,9,22]:=⟨by kernel_rfl,tab,kids_rows (by kernel_rfl) (by kernel_rfl),slices_full_of Tryz.prog (by kernel_rfl),by kernel_rfl⟩
end Go.Proofs.YtpnadocbfbbboaaGreat
namespace Go.Proofs.YtpnadocbfbbboaaGreat
open Ax Go
theorem u3:Tryz.prog.underlying 3=some (.int .i64):=by kernel_rfl
theorem c3:Tryz.prog.cellsOf 3=1:=by kernel_rfl
theorem ty3 {a:AV}(h:TyV Tryz.prog 3 a):∃n,a=.int .i64 n:=by
 obtain⟨n,e,_,_⟩:=ty_int u3 (tyV_one (fun fs h=>by rw[u3]at h;cases h) h)
 cases e
 exact⟨n,rfl⟩
end Go.Proofs.YtpnadocbfbbboaaGreat
