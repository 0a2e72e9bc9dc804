/- Part of a proof. -/
import Derived.Test.YtgblgbgjmgjfkaaGreatCode1
import Derived.Test.YtgblgbgjmgjfkaaGreatRows
import Derived.Test.YtgblgbgjmgjfkaaGreatP

set_option maxRecDepth 100000
namespace Go.Proofs.YtgblgbgjmgjfkaaGreat
open Ax
theorem tab:Qp aO.S Tryz.prog:=afu (by kernel_rfl) (by kernel_rfl)
theorem hom:aps aO.S Tryz.checked [3,4,9,28]:=⟨by kernel_rfl,tab,kids_rows (by kernel_rfl) (by kernel_rfl),slices_full_of Tryz.prog (by kernel_rfl),by kernel_rfl⟩
end Go.Proofs.YtgblgbgjmgjfkaaGreat
namespace Go.Proofs.YtgblgbgjmgjfkaaGreat
open Ax Go
theorem u3:Tryz.prog.underlying 3=some (.int .i64):=by kernel_rfl
theorem u9:Tryz.prog.underlying 9=some .string:=by kernel_rfl
theorem u28:Tryz.prog.underlying 28=some (.slice 3):=by kernel_rfl
theorem c3:Tryz.prog.cellsOf 3=1:=by kernel_rfl
variable{a:AV}
theorem ty3(h:TyV Tryz.prog 3 a):∃n,a=.int .i64 n:=by
 obtain⟨n,e,_,_⟩:=Th u3 (No (λfs h=>by simp_all) h)
 grind
theorem ty9(h:TyV Tryz.prog 9 a):∃s,a=.str s:=by
 obtain⟨s,e,_⟩:=akp u9 (No (λfs h=>by simp_all) h)
 grind
theorem ase{t e:TypeId}{v:AV}(j:Tryz.prog.underlying t=some (.slice e))(h:Ty Tryz.prog t [v]):V7.cJ v=true:=by
 cases h with
 |aF g=>rfl|oI g=>rfl|dV g rows l k H=>rfl|bool g=>rfl|int g=>rfl|str g=>rfl|aat g _ H=>grind
theorem ayk(h:TyV Tryz.prog 28 a):mK a=true/\V7.cJ a=true:=by
 grind [No,u28,avb,u3,c3,ase]
end Go.Proofs.YtgblgbgjmgjfkaaGreat
