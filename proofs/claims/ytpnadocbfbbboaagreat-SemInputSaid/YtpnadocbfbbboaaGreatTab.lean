/- Part of a proof. -/
import Derived.Test.YtpnadocbfbbboaaGreatCode2
import Derived.Test.YtpnadocbfbbboaaGreatA6
import Derived.Test.YtpnadocbfbbboaaGreatRows
import Derived.Test.YtpnadocbfbbboaaGreatP

set_option maxRecDepth 100000
namespace Go.Proofs.YtpnadocbfbbboaaGreat
open Ax
theorem tab:MTab Code11.S Tryz.prog:=mtab_of (by kernel_rfl) (by kernel_rfl)
theorem hom:Home Code11.S Tryz.checked [3,4,9,22]:=⟨by kernel_rfl,tab,kids_rows (by kernel_rfl) (by kernel_rfl),slices_full_of Tryz.prog (by kernel_rfl),by kernel_rfl⟩
end Go.Proofs.YtpnadocbfbbboaaGreat
namespace Go.Proofs.YtpnadocbfbbboaaGreat
open Ax Go
theorem u3:Tryz.prog.underlying 3=some (.int .i64):=by kernel_rfl
theorem u9:Tryz.prog.underlying 9=some .string:=by kernel_rfl
theorem u22:Tryz.prog.underlying 22=some (.slice 3):=by kernel_rfl
theorem c3:Tryz.prog.cellsOf 3=1:=by kernel_rfl
theorem ty3 {a:AV}(h:TyV Tryz.prog 3 a):∃n,a=.int .i64 n:=by
 obtain⟨n,e,_,_⟩:=ty_int u3 (tyV_one (fun fs h=>by rw[u3]at h;cases h) h)
 cases e
 exact⟨n,rfl⟩
theorem ty9 {a:AV}(h:TyV Tryz.prog 9 a):∃s,a=.str s:=by
 obtain⟨s,e,_⟩:=ty_str u9 (tyV_one (fun fs h=>by rw[u9]at h;cases h) h)
 cases e
 exact⟨s,rfl⟩
theorem no_of {t e:TypeId}{v:AV}(h1:Tryz.prog.underlying t=some (.slice e))(h:Ty Tryz.prog t [v]):V7.notOwn v=true:=by
 cases h with
 |nilSl hu=>rfl
 |emp hu=>rfl
 |lst hu rows hn hl h2=>rfl
 |bool hu=>rfl
 |int hu=>rfl
 |str hu=>rfl
 |recd hu _ h2=>rw[h1]at hu;cases hu
theorem ty22 {a:AV}(h:TyV Tryz.prog 22 a):isI a=true/\V7.notOwn a=true:=by
 have h1:=tyV_one (fun fs h=>by rw[u22]at h;cases h) h
 obtain⟨v,e,h2,_⟩:=ty_I u22 u3 c3 h1
 cases e
 exact⟨h2,no_of u22 h1⟩
end Go.Proofs.YtpnadocbfbbboaaGreat
