/-
  Whatever the text, the law LowerRight answers true and leaves its arguments as they were. There are no conditions.
-/
import Derived.Test.YtachcambnjecnaaGreatY
import Derived.Test.YtachcambnjecnaaGreatTab

set_option maxRecDepth 100000
namespace Go.Proofs.YtachcambnjecnaaGreat
open Ax Go
theorem lowerRight_lifted (os:Os)(started:os.Started)(H:Type)(enc:TypeId×Value->H) :
  ReturnsInHanded {} Tryz.checked os 4 .any (Rows.lowerRightSpec.pre6 enc Tryz.prog Tryz.f4 Rows.lowerRightRow.domain false) (Rows.lowerRightSpec.post enc Tryz.prog Tryz.f4 false true false false):=by
 have hp:Tryz.f4.params.toList=[9]:=by kernel_rfl
 refine law_lifted (tb:=4) hom started (by kernel_rfl) Tryz.func4 (by decide)
  (ChangeSpec.witness6 (enc:=enc) (C:=Tryz.checked) false ⟨#[],#[.string ⟨#[]⟩],[]⟩ 8 (by kernel_rfl) (by kernel_rfl) (by kernel_rfl) (by kernel_rfl))
  (by kernel_rfl) rfl (by kernel_rfl) (by kernel_rfl) (λds hl=>?_) (λl has=>?_)
 ·rw[hp]at hl
  match ds,hl with
  |[d1],_=>exact⟨rfl,rfl,rfl⟩
 ·rw[hp]at has
  obtain⟨a,rfl,ha⟩:=O7 has
  obtain⟨s,rfl⟩:=ty9 ha
  exact⟨[],yb.Nw s⟩
theorem lowerRight_holds:Rows.LowerRightSaid:=
 OpenClaim.holds_of_wide 4 Tryz.f4 rfl rfl rfl rfl rfl rfl rfl ⟨rfl,rfl,rfl,rfl,rfl⟩ rfl rfl rfl rfl rfl (by kernel_rfl) Tryz.func4 (by kernel_rfl)
  (of_decide_eq_true (by kernel_rfl)) (by unfold Func.isWrapper;rw[if_neg (of_decide_eq_false (by kernel_rfl))];exact⟨rfl,rfl⟩)
  (λos started H enc _=>lowerRight_lifted os started H enc)
end Go.Proofs.YtachcambnjecnaaGreat
