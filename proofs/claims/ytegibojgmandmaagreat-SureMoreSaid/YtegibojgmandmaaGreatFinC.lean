/-
  Whatever the input, the law SureMore answers true and leaves its arguments as they were. There are no conditions.
-/
import Derived.Test.YtegibojgmandmaaGreatF
import Derived.Test.YtegibojgmandmaaGreatTab

set_option maxRecDepth 100000
namespace Go.Proofs.YtegibojgmandmaaGreat
open Ax Go
theorem sureMore_lifted (os:Os)(started:os.Started)(H:Type)(enc:TypeId×Value->H) :
  ReturnsInHanded {} Tryz.checked os 5 .any (Rows.sureMoreSpec.pre6 enc Tryz.prog Tryz.f5 Rows.sureMoreRow.domain false) (Rows.sureMoreSpec.post enc Tryz.prog Tryz.f5 false true false false):=by
 have hp:Tryz.f5.params.toList=[9,3]:=by kernel_rfl
 refine law_lifted (tb:=4) hom started (by kernel_rfl) Tryz.func5 (by decide)
  (ChangeSpec.witness6 (enc:=enc) (C:=Tryz.checked) false ⟨#[],#[.string ⟨#[]⟩,.int .i64 0],[]⟩ 8 (by kernel_rfl) (by kernel_rfl) (by kernel_rfl) (by kernel_rfl))
  (by kernel_rfl) rfl (by kernel_rfl) (by kernel_rfl) (fun ds hl=>?_) (fun l has=>?_)
 ·rw[hp]at hl
  match ds,hl with
  |[d1,d2],_=>exact⟨rfl,rfl,rfl⟩
 ·rw[hp]at has
  obtain⟨a,b,rfl,ha,hb⟩:=tyVs_two has
  obtain⟨s,rfl⟩:=ty9 ha
  obtain⟨n,rfl⟩:=ty3 hb
  exact⟨[],S9.law_more s n⟩
theorem sureMore_holds:Rows.SureMoreSaid:=
 OpenClaim.holds_of_wide 5 Tryz.f5 rfl rfl rfl rfl rfl rfl rfl ⟨rfl,rfl,rfl,rfl,rfl⟩ rfl rfl rfl rfl rfl (by kernel_rfl) Tryz.func5 (by kernel_rfl)
  (of_decide_eq_true (by kernel_rfl)) (by unfold Func.isWrapper;rw[if_neg (of_decide_eq_false (by kernel_rfl))];exact⟨rfl,rfl⟩)
  (fun os started H enc _=>sureMore_lifted os started H enc)
end Go.Proofs.YtegibojgmandmaaGreat
