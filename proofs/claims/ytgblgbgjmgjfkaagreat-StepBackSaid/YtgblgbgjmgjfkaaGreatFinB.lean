/-
  Whatever the input, the law StepBack answers true and leaves its arguments as they were. There are no conditions.
-/
import Derived.Test.YtgblgbgjmgjfkaaGreatYC
import Derived.Test.YtgblgbgjmgjfkaaGreatTab

open Bool renaming true->Y,false->X
open Option renaming none->K
set_option maxRecDepth 100000
namespace Go.Proofs.YtgblgbgjmgjfkaaGreat
open Ax Go
theorem stepBack_lifted(J:Os)(S:J.Started)(H:Type)(enc:TypeId×Value->H):
  ReturnsInHanded {} Tryz.checked J 5 .any (Rows.stepBackSpec.pre6 enc Tryz.prog Tryz.f5 Rows.stepBackRow.domain X) (Rows.stepBackSpec.post enc Tryz.prog Tryz.f5 X Y X X):=by
 have j:Tryz.f5.params.toList=[9,28,3]:=by kernel_rfl
 refine law_lifted (tb:=4) hom S (by kernel_rfl) Tryz.func5 (by decide)
  (ChangeSpec.witness6 (enc:=enc) (C:=Tryz.checked) X ⟨#[],#[.string ⟨#[]⟩,.slice K 0 0,.int .i64 0],[]⟩ 8 (by kernel_rfl) (by kernel_rfl) (by kernel_rfl) (by kernel_rfl))
  (by kernel_rfl) rfl (by kernel_rfl) (by kernel_rfl) (λD h=>?_) (λl bY=>?_)
 rw[j]at h;match D,h with
 |[q,r,t],_=>exact⟨rfl,rfl,rfl⟩
 rw[j]at bY;obtain⟨a,b,c,rfl,m,o,p⟩:=Ua bY;obtain⟨s,rfl⟩:=ty9 m;obtain⟨g,k⟩:=azU o;obtain⟨n,rfl⟩:=ty3 p;exact U14.afh s g k n
theorem stepBack_holds:Rows.StepBackSaid:=
 OpenClaim.holds_of_wide 5 Tryz.f5 rfl rfl rfl rfl rfl rfl rfl ⟨rfl,rfl,rfl,rfl,rfl⟩ rfl rfl rfl rfl rfl (by kernel_rfl) Tryz.func5 (by kernel_rfl)
  (of_decide_eq_true (by kernel_rfl)) (by unfold Func.isWrapper;rw[U (of_decide_eq_false (by kernel_rfl))];exact⟨rfl,rfl⟩)
  (λJ l H E _=>stepBack_lifted J l H E)
end Go.Proofs.YtgblgbgjmgjfkaaGreat
