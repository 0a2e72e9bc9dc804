/-
  Whatever the input, the law LowerLong answers true and leaves its arguments as they were. There are no conditions.
-/
import Derived.Test.YtachcambnjecnaaY
import Derived.Test.YtachcambnjecnaaTab

set_option maxRecDepth 100000
namespace Go.Proofs.Ytachcambnjecnaa
open Ax Go
theorem lowerLong_lifted (os:Os)(started:os.Started)(H:Type)(enc:TypeId×Value->H) :
  ReturnsInHanded {} Try.checked os 5 .any (Rows.lowerLongSpec.pre6 enc Try.prog Try.f5 Rows.lowerLongRow.domain false) (Rows.lowerLongSpec.post enc Try.prog Try.f5 false true false false):=by
 have hp:Try.f5.params.toList=[3]:=by kernel_rfl
 refine law_lifted (tb:=4) hom started (by kernel_rfl) Try.func5 (by decide)
  (ChangeSpec.witness6 (enc:=enc) (C:=Try.checked) false ⟨#[],#[.int .i64 0],[]⟩ 8 (by kernel_rfl) (by kernel_rfl) (by kernel_rfl) (by kernel_rfl))
  (by kernel_rfl) rfl (by kernel_rfl) (by kernel_rfl) (fun ds hl=>?_) (fun l has=>?_)
 ·rw[hp]at hl
  match ds,hl with
  |[d1],_=>exact⟨rfl,rfl,rfl⟩
 ·rw[hp]at has
  obtain⟨a,rfl,ha⟩:=tyVs_one has
  obtain⟨n1,rfl⟩:=ty3 ha
  exact⟨[],U13.law_long n1⟩
theorem lowerLong_holds:Rows.LowerLongSaid:=
 OpenClaim.holds_of_wide 5 Try.f5 rfl rfl rfl rfl rfl rfl rfl ⟨rfl,rfl,rfl,rfl,rfl⟩ rfl rfl rfl rfl rfl (by kernel_rfl) Try.func5 (by kernel_rfl)
  (of_decide_eq_true (by kernel_rfl)) (by unfold Func.isWrapper;rw[if_neg (of_decide_eq_false (by kernel_rfl))];exact⟨rfl,rfl⟩)
  (fun os started H enc _=>lowerLong_lifted os started H enc)
end Go.Proofs.Ytachcambnjecnaa
