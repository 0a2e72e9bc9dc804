/-
  Whatever the input, the law LowerSites answers true and leaves its arguments as they were. There are no conditions.
-/
import Derived.Test.YtachcambnjecnaaY
import Derived.Test.YtachcambnjecnaaTab

set_option maxRecDepth 100000
namespace Go.Proofs.Ytachcambnjecnaa
open Ax Go
theorem lowerSites_lifted(os:Os)(started:os.Started)(H:Type)(enc:TypeId×Value->H) :
  ReturnsInHanded {} Try.checked os 4 .any (Rows.lowerSitesSpec.pre6 enc Try.prog Try.f4 Rows.lowerSitesRow.domain false) (Rows.lowerSitesSpec.post enc Try.prog Try.f4 false true false false):=by
 have hp:Try.f4.params.toList=[3,3]:=by kernel_rfl
 refine law_lifted (tb:=4) hom started (by kernel_rfl) Try.func4 (by decide)
  (ChangeSpec.witness6 (enc:=enc) (C:=Try.checked) false ⟨#[],#[.int .i64 0,.int .i64 0],[]⟩ 8 (by kernel_rfl) (by kernel_rfl) (by kernel_rfl) (by kernel_rfl))
  (by kernel_rfl) rfl (by kernel_rfl) (by kernel_rfl) (λds hl=>?_) (λl bO=>?_)
 ·rw[hp]at hl
  match ds,hl with
  |[d1,d2],_=>exact⟨rfl,rfl,rfl⟩
 ·rw[hp]at bO
  obtain⟨a,b,rfl,ha,hb⟩:=Qc bO
  obtain⟨n1,rfl⟩:=ty3 ha
  obtain⟨n2,rfl⟩:=ty3 hb
  exact⟨[],Sit.Ok n1 n2⟩
theorem lowerSites_holds:Rows.LowerSitesSaid:=
 OpenClaim.holds_of_wide 4 Try.f4 rfl rfl rfl rfl rfl rfl rfl ⟨rfl,rfl,rfl,rfl,rfl⟩ rfl rfl rfl rfl rfl (by kernel_rfl) Try.func4 (by kernel_rfl)
  (of_decide_eq_true (by kernel_rfl)) (by unfold Func.isWrapper;rw[if_neg (of_decide_eq_false (by kernel_rfl))];exact⟨rfl,rfl⟩)
  (λos started H enc _=>lowerSites_lifted os started H enc)
end Go.Proofs.Ytachcambnjecnaa
