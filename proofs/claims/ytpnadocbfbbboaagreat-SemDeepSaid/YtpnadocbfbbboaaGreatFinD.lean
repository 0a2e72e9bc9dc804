/-
  Whatever the number, the law SemDeep answers true and leaves its argument as it was. There are no conditions.
-/
import Derived.Test.YtpnadocbfbbboaaGreatO
import Derived.Test.YtpnadocbfbbboaaGreatTab

set_option maxRecDepth 100000
namespace Go.Proofs.YtpnadocbfbbboaaGreat
open Ax Go
theorem semDeep_lifted (os:Os)(started:os.Started)(H:Type)(enc:TypeId×Value->H) :
  ReturnsInHanded {} Tryz.checked os 8 .any (Rows.semDeepSpec.pre6 enc Tryz.prog Tryz.f8 Rows.semDeepRow.domain false) (Rows.semDeepSpec.post enc Tryz.prog Tryz.f8 false true false false):=by
 have hp:Tryz.f8.params.toList=[3]:=by kernel_rfl
 refine law_lifted (tb:=4) hom started (by kernel_rfl) Tryz.func8 (by decide)
  (ChangeSpec.witness6 (enc:=enc) (C:=Tryz.checked) false ⟨#[],#[.int .i64 0],[]⟩ 8 (by kernel_rfl) (by kernel_rfl) (by kernel_rfl) (by kernel_rfl))
  (by kernel_rfl) rfl (by kernel_rfl) (by kernel_rfl) (fun ds hl=>?_) (fun l has=>?_)
 ·rw[hp]at hl
  match ds,hl with
  |[d1],_=>exact⟨rfl,rfl,rfl⟩
 ·rw[hp]at has
  obtain⟨a,rfl,ha⟩:=tyVs_one has
  obtain⟨n,rfl⟩:=ty3 ha
  exact E11.law_deep n
theorem semDeep_holds:Rows.SemDeepSaid:=
 OpenClaim.holds_of_wide 8 Tryz.f8 rfl rfl rfl rfl rfl rfl rfl ⟨rfl,rfl,rfl,rfl,rfl⟩ rfl rfl rfl rfl rfl (by kernel_rfl) Tryz.func8 (by kernel_rfl)
  (of_decide_eq_true (by kernel_rfl)) (by unfold Func.isWrapper;rw[if_neg (of_decide_eq_false (by kernel_rfl))];exact⟨rfl,rfl⟩)
  (fun os started H enc _=>semDeep_lifted os started H enc)
end Go.Proofs.YtpnadocbfbbboaaGreat
