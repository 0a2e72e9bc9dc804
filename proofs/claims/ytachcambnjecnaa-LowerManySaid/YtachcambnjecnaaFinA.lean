/-
  Whatever the input, the law LowerMany answers true and leaves its arguments as they were. There are no conditions.
-/
import Derived.Test.YtachcambnjecnaaL
import Derived.Test.YtachcambnjecnaaTab

set_option maxRecDepth 100000
namespace Go.Proofs.Ytachcambnjecnaa
open Ax Go
theorem lowerMany_lifted (os:Os)(started:os.Started)(H:Type)(enc:TypeId×Value->H) :
  ReturnsInHanded {} Try.checked os 3 .any (Rows.lowerManySpec.pre6 enc Try.prog Try.f3 Rows.lowerManyRow.domain false) (Rows.lowerManySpec.post enc Try.prog Try.f3 false true false false):=by
 have hp:Try.f3.params.toList=[3,3]:=by kernel_rfl
 refine law_lifted (tb:=4) hom started (by kernel_rfl) Try.func3 (by decide)
  (ChangeSpec.witness6 (enc:=enc) (C:=Try.checked) false ⟨#[],#[.int .i64 0,.int .i64 0],[]⟩ 8 (by kernel_rfl) (by kernel_rfl) (by kernel_rfl) (by kernel_rfl))
  (by kernel_rfl) rfl (by kernel_rfl) (by kernel_rfl) (fun ds hl=>?_) (fun l has=>?_)
 ·rw[hp]at hl
  match ds,hl with
  |[d1,d2],_=>exact⟨rfl,rfl,rfl⟩
 ·rw[hp]at has
  obtain⟨a,b,rfl,ha,hb⟩:=tyVs_two has
  obtain⟨n1,rfl⟩:=ty3 ha
  obtain⟨n2,rfl⟩:=ty3 hb
  exact⟨[],U13.law_many n1 n2⟩
theorem lowerMany_holds:Rows.LowerManySaid:=
 OpenClaim.holds_of_wide 3 Try.f3 rfl rfl rfl rfl rfl rfl rfl ⟨rfl,rfl,rfl,rfl,rfl⟩ rfl rfl rfl rfl rfl (by kernel_rfl) Try.func3 (by kernel_rfl)
  (of_decide_eq_true (by kernel_rfl)) (by unfold Func.isWrapper;rw[if_neg (of_decide_eq_false (by kernel_rfl))];exact⟨rfl,rfl⟩)
  (fun os started H enc _=>lowerMany_lifted os started H enc)
end Go.Proofs.Ytachcambnjecnaa
