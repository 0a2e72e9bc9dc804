/-
  Whatever the number, the law SemOrder answers true and leaves its argument as it was. There are no conditions.
-/
import Derived.Test.YtpnadocbfbbboaaGreatO
import Derived.Test.YtpnadocbfbbboaaGreatTab

set_option maxRecDepth 100000
namespace Go.Proofs.YtpnadocbfbbboaaGreat
open Ax Go
theorem semOrder_lifted (os:Os)(started:os.Started)(H:Type)(enc:TypeId×Value->H) :
  ReturnsInHanded {} Tryz.checked os 9 .any (Rows.semOrderSpec.pre6 enc Tryz.prog Tryz.f9 Rows.semOrderRow.domain false) (Rows.semOrderSpec.post enc Tryz.prog Tryz.f9 false true false false):=by
 have hp:Tryz.f9.params.toList=[3]:=by kernel_rfl
 refine law_lifted (tb:=4) hom started (by kernel_rfl) Tryz.func9 (by decide)
  (ChangeSpec.witness6 (enc:=enc) (C:=Tryz.checked) false ⟨#[],#[.int .i64 0],[]⟩ 8 (by kernel_rfl) (by kernel_rfl) (by kernel_rfl) (by kernel_rfl))
  (by kernel_rfl) rfl (by kernel_rfl) (by kernel_rfl) (fun ds hl=>?_) (fun l has=>?_)
 ·rw[hp]at hl
  match ds,hl with
  |[d1],_=>exact⟨rfl,rfl,rfl⟩
 ·rw[hp]at has
  obtain⟨a,rfl,ha⟩:=tyVs_one has
  obtain⟨n,rfl⟩:=ty3 ha
  exact E11.law_order n
theorem semOrder_holds:Rows.SemOrderSaid:=
 OpenClaim.holds_of_wide 9 Tryz.f9 rfl rfl rfl rfl rfl rfl rfl ⟨rfl,rfl,rfl,rfl,rfl⟩ rfl rfl rfl rfl rfl (by kernel_rfl) Tryz.func9 (by kernel_rfl)
  (of_decide_eq_true (by kernel_rfl)) (by unfold Func.isWrapper;rw[if_neg (of_decide_eq_false (by kernel_rfl))];exact⟨rfl,rfl⟩)
  (fun os started H enc _=>semOrder_lifted os started H enc)
end Go.Proofs.YtpnadocbfbbboaaGreat
