/- Part of a proof. -/
import Derived.Test.YtgblgbgjmgjfkaaGreatCode1
import Derived.Test.YtgblgbgjmgjfkaaGreatRows
import Derived.Test.YtgblgbgjmgjfkaaGreatP

open Option renaming some->Z
open Bool renaming true->Y
set_option maxRecDepth 100000
namespace Go.Proofs.YtgblgbgjmgjfkaaGreat
open Ax
theorem tab:Q7 aM.S Tryz.prog:=agF (by kernel_rfl) (by kernel_rfl)
theorem hom:aq4 aM.S Tryz.checked [3,4,9,28]:=⟨by kernel_rfl,tab,kids_rows (by kernel_rfl) (by kernel_rfl),slices_full_of Tryz.prog (by kernel_rfl),by kernel_rfl⟩
open Go
theorem u3:Tryz.prog.underlying 3=Z (.int .i64):=by kernel_rfl
theorem u9:Tryz.prog.underlying 9=Z .string:=by kernel_rfl
theorem u28:Tryz.prog.underlying 28=Z (.slice 3):=by kernel_rfl
theorem c3:Tryz.prog.cellsOf 3=1:=by kernel_rfl
theorem ty3{a}(h:TyV Tryz.prog 3 a):∃n,a=.int .i64 n:=by
 obtain⟨n,e,_,_⟩:=T9 u3 (Og (λfs h=>by simp_all) h)
 grind
theorem ty9{a}(h:TyV Tryz.prog 9 a):∃s,a=.str s:=by
 obtain⟨s,e,_⟩:=alT u9 (Og (λfs h=>by simp_all) h)
 grind
theorem atS{t e v}(j:Tryz.prog.underlying t=Z (.slice e))(h:Ty Tryz.prog t [v]):V7.cL v=Y:=by
 cases h with
 |aF g=>rfl|pP g=>rfl|eE g rows l k H=>rfl|bool g=>rfl|int g=>rfl|str g=>rfl|abw g _ H=>grind
theorem azU{a}(h:TyV Tryz.prog 28 a):mX a=Y/\V7.cL a=Y:=by
 grind [Og,u28,awL,u3,c3,atS]
end Go.Proofs.YtgblgbgjmgjfkaaGreat
