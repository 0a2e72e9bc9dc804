/-
  Whatever the text, the law SureLaid answers true and leaves its arguments as they were. There are no conditions.
-/
import Derived.Test.YtegibojgmandmaaGreatF
import Derived.Test.YtegibojgmandmaaGreatTab

set_option maxRecDepth 100000
namespace Go.Proofs.YtegibojgmandmaaGreat
open Ax Go
theorem sureLaid_lifted (os:Os)(started:os.Started)(H:Type)(enc:TypeId×Value->H) :
  ReturnsInHanded {} Tryz.checked os 4 .any (Rows.sureLaidSpec.pre6 enc Tryz.prog Tryz.f4 Rows.sureLaidRow.domain false) (Rows.sureLaidSpec.post enc Tryz.prog Tryz.f4 false true false false):=by
 have hp:Tryz.f4.params.toList=[9]:=by kernel_rfl
 refine law_lifted (tb:=4) hom started (by kernel_rfl) Tryz.func4 (by decide)
  (ChangeSpec.witness6 (enc:=enc) (C:=Tryz.checked) false ⟨#[],#[.string ⟨#[]⟩],[]⟩ 8 (by kernel_rfl) (by kernel_rfl) (by kernel_rfl) (by kernel_rfl))
  (by kernel_rfl) rfl (by kernel_rfl) (by kernel_rfl) (fun ds hl=>?_) (fun l has=>?_)
 ·rw[hp]at hl
  match ds,hl with
  |[d1],_=>exact⟨rfl,rfl,rfl⟩
 ·rw[hp]at has
  obtain⟨a,rfl,ha⟩:=tyVs_one has
  obtain⟨s,rfl⟩:=ty9 ha
  exact⟨[],S9.law_laid s⟩
theorem sureLaid_holds:Rows.SureLaidSaid:=
 OpenClaim.holds_of_wide 4 Tryz.f4 rfl rfl rfl rfl rfl rfl rfl ⟨rfl,rfl,rfl,rfl,rfl⟩ rfl rfl rfl rfl rfl (by kernel_rfl) Tryz.func4 (by kernel_rfl)
  (of_decide_eq_true (by kernel_rfl)) (by unfold Func.isWrapper;rw[if_neg (of_decide_eq_false (by kernel_rfl))];exact⟨rfl,rfl⟩)
  (fun os started H enc _=>sureLaid_lifted os started H enc)
end Go.Proofs.YtegibojgmandmaaGreat
