/- Part of a proof. -/
import Derived.Test.YtachcambnjecnaaCode2
import Derived.Test.YtachcambnjecnaaA6
import Derived.Test.YtachcambnjecnaaRows
import Derived.Test.YtachcambnjecnaaP

set_option maxRecDepth 100000
namespace Go.Proofs.Ytachcambnjecnaa
open Ax
theorem tab:Gt cp.S Try.prog:=S5 (by kernel_rfl) (by kernel_rfl)
theorem hom:Home cp.S Try.checked [3,4,32]:=⟨by kernel_rfl,tab,kids_rows (by kernel_rfl) (by kernel_rfl),slices_full_of Try.prog (by kernel_rfl),by kernel_rfl⟩
end Go.Proofs.Ytachcambnjecnaa
namespace Go.Proofs.Ytachcambnjecnaa
open Ax Go
theorem u3:Try.prog.underlying 3=some (.int .i64):=by kernel_rfl
theorem ty3 {a:AV}(h:Wy Try.prog 3 a):∃n,a=.int .i64 n:=by
 obtain⟨n,e,_⟩:=Jd u3 (Kv (λfs h=>by rw[u3]at h;cases h) h)
 cases e
 exact⟨n,rfl⟩
theorem u32:Try.prog.underlying 32=some (.slice 3):=by kernel_rfl
theorem c3:Try.prog.cellsOf 3=1:=by kernel_rfl
theorem adD {t e:TypeId}{v:AV}(h1:Try.prog.underlying t=some (.slice e))(h:Ty Try.prog t [v]):V7.mz v=true:=by
 cases h with
 |U hu=>rfl
 |emp hu=>rfl
 |cN hu rows hn hl h2=>rfl
 |bool hu=>rfl
 |int hu=>rfl
 |str hu=>rfl
 |S1 hu _ h2=>rw[h1]at hu;cases hu
theorem aii {a:AV}(h:Wy Try.prog 32 a):vM a=true/\V7.mz a=true:=by
 have h1:=Kv (λfs h=>by rw[u32]at h;cases h) h
 obtain⟨v,e,h2,_⟩:=agn u32 u3 c3 h1
 cases e
 exact⟨h2,adD u32 h1⟩
end Go.Proofs.Ytachcambnjecnaa
