/-
  Whatever the text, the law ConsTexts answers true and leaves its arguments as they were. There are no conditions.
-/
import Derived.Test.YtlcehclecbakiaaGreatY
import Derived.Test.YtlcehclecbakiaaGreatTab

set_option maxRecDepth 100000
namespace Go.Proofs.YtlcehclecbakiaaGreat
open Ax Go
theorem consTexts_lifted(os:Os)(started:os.Started)(H:Type)(enc:TypeId×Value->H) :
  ReturnsInHanded {} Tryz.checked os 4 .any (Rows.consTextsSpec.pre6 enc Tryz.prog Tryz.f4 Rows.consTextsRow.domain false) (Rows.consTextsSpec.post enc Tryz.prog Tryz.f4 false true false false):=by
 have hp:Tryz.f4.params.toList=[9]:=by kernel_rfl
 refine law_lifted (tb:=4) hom started (by kernel_rfl) Tryz.func4 (by decide)
  (ChangeSpec.witness6 (enc:=enc) (C:=Tryz.checked) false ⟨#[],#[.string ⟨#[]⟩],[]⟩ 8 (by kernel_rfl) (by kernel_rfl) (by kernel_rfl) (by kernel_rfl))
  (by kernel_rfl) rfl (by kernel_rfl) (by kernel_rfl) (λds hl=>?_) (λl bg=>?_)
 rw[hp]at hl;match ds,hl with
 |[d1],_=>exact⟨rfl,rfl,rfl⟩
 rw[hp]at bg;obtain⟨a,rfl,ha⟩:=Ur bg;obtain⟨s,rfl⟩:=ty9 ha;exact⟨[],Cns.SG s⟩
theorem consTexts_holds:Rows.ConsTextsSaid:=
 OpenClaim.holds_of_wide 4 Tryz.f4 rfl rfl rfl rfl rfl rfl rfl ⟨rfl,rfl,rfl,rfl,rfl⟩ rfl rfl rfl rfl rfl (by kernel_rfl) Tryz.func4 (by kernel_rfl)
  (of_decide_eq_true (by kernel_rfl)) (by unfold Func.isWrapper;rw[if_neg (of_decide_eq_false (by kernel_rfl))];exact⟨rfl,rfl⟩)
  (λos started H enc _=>consTexts_lifted os started H enc)
end Go.Proofs.YtlcehclecbakiaaGreat
