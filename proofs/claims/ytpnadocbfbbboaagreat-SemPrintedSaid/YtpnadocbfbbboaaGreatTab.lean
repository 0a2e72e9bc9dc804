/- Part of a proof. -/
import Derived.Test.YtpnadocbfbbboaaGreatCode2
import Derived.Test.YtpnadocbfbbboaaGreatA6
import Derived.Test.YtpnadocbfbbboaaGreatRows
import Derived.Test.YtpnadocbfbbboaaGreatP

set_option maxRecDepth 100000
namespace Go.Proofs.YtpnadocbfbbboaaGreat
open Ax
theorem tab:KH bX.S Tryz.prog:=XT (by kernel_rfl) (by kernel_rfl)
theorem hom:agD bX.S Tryz.checked [3,4,9,22]:=⟨by kernel_rfl,tab,kids_rows (by kernel_rfl) (by kernel_rfl),slices_full_of Tryz.prog (by kernel_rfl),by kernel_rfl⟩
end Go.Proofs.YtpnadocbfbbboaaGreat
namespace Go.Proofs.YtpnadocbfbbboaaGreat
open Ax Go
theorem u3:Tryz.prog.underlying 3=some (.int .i64):=by kernel_rfl
theorem u9:Tryz.prog.underlying 9=some .string:=by kernel_rfl
theorem u22:Tryz.prog.underlying 22=some (.slice 3):=by kernel_rfl
theorem c3:Tryz.prog.cellsOf 3=1:=by kernel_rfl
theorem ty3{a:AV}(h:WD Tryz.prog 3 a):∃n,a=.int .i64 n:=by
 obtain⟨n,e,_,_⟩:=M7 u3 (Is (λfs h=>by rw[u3]at h;cases h) h);cases e;exact⟨n,rfl⟩
theorem ty9{a:AV}(h:WD Tryz.prog 9 a):∃s,a=.str s:=by
 obtain⟨s,e,_⟩:=acy u9 (Is (λfs h=>by rw[u9]at h;cases h) h);cases e;exact⟨s,rfl⟩
theorem aiZ{t e:TypeId}{v:AV}(h1:Tryz.prog.underlying t=some (.slice e))(h:Ty Tryz.prog t [v]):V7.jy v=true:=by
 cases h with
 |U hu=>rfl|lU hu=>rfl|dc hu rows hn hl h2=>rfl|bool hu=>rfl|int hu=>rfl|str hu=>rfl|Ti hu _ h2=>rw[h1]at hu;cases hu
theorem anV{a:AV}(h:WD Tryz.prog 22 a):u7 a=true/\V7.jy a=true:=by
 have h1:=Is (λfs h=>by rw[u22]at h;cases h) h;obtain⟨v,e,h2,_⟩:=alO u22 u3 c3 h1;cases e;exact⟨h2,aiZ u22 h1⟩
end Go.Proofs.YtpnadocbfbbboaaGreat
