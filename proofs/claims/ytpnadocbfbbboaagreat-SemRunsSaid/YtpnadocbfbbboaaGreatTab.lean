/- Part of a proof. -/
import Derived.Test.YtpnadocbfbbboaaGreatCode2
import Derived.Test.YtpnadocbfbbboaaGreatRows
import Derived.Test.YtpnadocbfbbboaaGreatP

set_option maxRecDepth 100000
namespace Go.Proofs.YtpnadocbfbbboaaGreat
open Ax
theorem tab:Kq bY.S Tryz.prog:=WX (by kernel_rfl) (by kernel_rfl)
theorem hom:afy bY.S Tryz.checked [3,4,9,22]:=⟨by kernel_rfl,tab,kids_rows (by kernel_rfl) (by kernel_rfl),slices_full_of Tryz.prog (by kernel_rfl),by kernel_rfl⟩
end Go.Proofs.YtpnadocbfbbboaaGreat
namespace Go.Proofs.YtpnadocbfbbboaaGreat
open Ax Go
theorem u3:Tryz.prog.underlying 3=some (.int .i64):=by kernel_rfl
theorem u9:Tryz.prog.underlying 9=some .string:=by kernel_rfl
theorem u22:Tryz.prog.underlying 22=some (.slice 3):=by kernel_rfl
theorem c3:Tryz.prog.cellsOf 3=1:=by kernel_rfl
variable{a:AV}
theorem ty3(h:VK Tryz.prog 3 a):∃n,a=.int .i64 n:=by
 obtain⟨n,e,_,_⟩:=MA u3 (Iu (λfs h=>by rw[u3]at h;cases h) h);cases e;exact⟨n,rfl⟩
theorem ty9(h:VK Tryz.prog 9 a):∃s,a=.str s:=by
 obtain⟨s,e,_⟩:=abk u9 (Iu (λfs h=>by rw[u9]at h;cases h) h);cases e;exact⟨s,rfl⟩
theorem ahS{t e:TypeId}{v:AV}(h1:Tryz.prog.underlying t=some (.slice e))(h:Ty Tryz.prog t [v]):V7.iQ v=true:=by
 cases h with
 |af hu=>rfl|mE hu=>rfl|eE hu rows hn hl h2=>rfl|bool hu=>rfl|int hu=>rfl|str hu=>rfl|SF hu _ h2=>rw[h1]at hu;cases hu
theorem amK(h:VK Tryz.prog 22 a):tP a=true/\V7.iQ a=true:=by
 have h1:=Iu (λfs h=>by rw[u22]at h;cases h) h;obtain⟨v,e,h2,_⟩:=akn u22 u3 c3 h1;cases e;exact⟨h2,ahS u22 h1⟩
end Go.Proofs.YtpnadocbfbbboaaGreat
