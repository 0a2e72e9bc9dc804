/-
  Whatever the text, the law LowerMakes answers true and leaves its arguments as they were. There are no conditions.
-/
import Derived.Test.YtachcambnjecnaaGreatY
import Derived.Test.YtachcambnjecnaaGreatTab

set_option maxRecDepth 100000
namespace Go.Proofs.YtachcambnjecnaaGreat
open Ax Go
theorem lowerMakes_lifted(os:Os)(started:os.Started)(H:Type)(enc:TypeId×Value->H) :
  ReturnsInHanded {} Tryz.checked os 3 .any (Rows.lowerMakesSpec.pre6 enc Tryz.prog Tryz.f3 Rows.lowerMakesRow.domain false) (Rows.lowerMakesSpec.post enc Tryz.prog Tryz.f3 false true false false):=by
 have hp:Tryz.f3.params.toList=[9]:=by kernel_rfl
 refine law_lifted (tb:=4) hom started (by kernel_rfl) Tryz.func3 (by decide)
  (ChangeSpec.witness6 (enc:=enc) (C:=Tryz.checked) false ⟨#[],#[.string ⟨#[]⟩],[]⟩ 8 (by kernel_rfl) (by kernel_rfl) (by kernel_rfl) (by kernel_rfl))
  (by kernel_rfl) rfl (by kernel_rfl) (by kernel_rfl) (λds hl=>?_) (λl bO=>?_)
 rw[hp]at hl;match ds,hl with
 |[d1],_=>exact⟨rfl,rfl,rfl⟩
 rw[hp]at bO;obtain⟨a,rfl,ha⟩:=Q0 bO;obtain⟨s,rfl⟩:=ty9 ha;exact⟨[],pU.Po s⟩
theorem lowerMakes_holds:Rows.LowerMakesSaid:=
 OpenClaim.holds_of_wide 3 Tryz.f3 rfl rfl rfl rfl rfl rfl rfl ⟨rfl,rfl,rfl,rfl,rfl⟩ rfl rfl rfl rfl rfl (by kernel_rfl) Tryz.func3 (by kernel_rfl)
  (of_decide_eq_true (by kernel_rfl)) (by unfold Func.isWrapper;rw[if_neg (of_decide_eq_false (by kernel_rfl))];exact⟨rfl,rfl⟩)
  (λos started H enc _=>lowerMakes_lifted os started H enc)
end Go.Proofs.YtachcambnjecnaaGreat
