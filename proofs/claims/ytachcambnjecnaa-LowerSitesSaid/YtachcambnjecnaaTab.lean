/- Part of a proof. -/
import Derived.Test.YtachcambnjecnaaCode2
import Derived.Test.YtachcambnjecnaaA6
import Derived.Test.YtachcambnjecnaaRows
import Derived.Test.YtachcambnjecnaaP

set_option maxRecDepth 100000
namespace Go.Proofs.Ytachcambnjecnaa
open Ax
theorem tab:HM cz.S Try.prog:=Uz (by kernel_rfl) (by kernel_rfl)
theorem hom:acU cz.S Try.checked [3,4,32]:=⟨by kernel_rfl,tab,kids_rows (by kernel_rfl) (by kernel_rfl),slices_full_of Try.prog (by kernel_rfl),by kernel_rfl⟩
end Go.Proofs.Ytachcambnjecnaa
namespace Go.Proofs.Ytachcambnjecnaa
open Ax Go
theorem u3:Try.prog.underlying 3=some (.int .i64):=by kernel_rfl
theorem ty3{a:AV}(h:Ye Try.prog 3 a):∃n,a=.int .i64 n:=by
 obtain⟨n,e,_⟩:=YO u3 (UZ (λfs h=>by rw[u3]at h;cases h) h)
 cases e
 exact⟨n,rfl⟩
theorem c3:Try.prog.cellsOf 3=1:=by kernel_rfl
end Go.Proofs.Ytachcambnjecnaa
