/-
  Whatever the input, the law StepMeans answers true and leaves its arguments as they were. There are no conditions.
-/
import Derived.Test.YtgblgbgjmgjfkaaGreatYC
import Derived.Test.YtgblgbgjmgjfkaaGreatTab

set_option maxRecDepth 100000
namespace Go.Proofs.YtgblgbgjmgjfkaaGreat
open Ax Go
theorem stepMeans_lifted(Q:Os)(y:Q.Started)(H:Type)(enc:TypeId×Value->H) :
  ReturnsInHanded {} Tryz.checked Q 4 .any (Rows.stepMeansSpec.pre6 enc Tryz.prog Tryz.f4 Rows.stepMeansRow.domain false) (Rows.stepMeansSpec.post enc Tryz.prog Tryz.f4 false true false false):=by
 have j:Tryz.f4.params.toList=[9,28,3]:=by kernel_rfl
 refine law_lifted (tb:=4) hom y (by kernel_rfl) Tryz.func4 (by decide)
  (ChangeSpec.witness6 (enc:=enc) (C:=Tryz.checked) false ⟨#[],#[.string ⟨#[]⟩,.slice none 0 0,.int .i64 0],[]⟩ 8 (by kernel_rfl) (by kernel_rfl) (by kernel_rfl) (by kernel_rfl))
  (by kernel_rfl) rfl (by kernel_rfl) (by kernel_rfl) (λg h=>?_) (λl bR=>?_)
 rw[j]at h;match g,h with
 |[D,r,t],_=>exact⟨rfl,rfl,rfl⟩
 rw[j]at bR;obtain⟨a,b,c,rfl,o,p,q⟩:=Ti bR;obtain⟨s,rfl⟩:=ty9 o;obtain⟨k,m⟩:=ayk p;obtain⟨n,rfl⟩:=ty3 q;exact U14.Y9 s k m n
theorem stepMeans_holds:Rows.StepMeansSaid:=
 OpenClaim.holds_of_wide 4 Tryz.f4 rfl rfl rfl rfl rfl rfl rfl ⟨rfl,rfl,rfl,rfl,rfl⟩ rfl rfl rfl rfl rfl (by kernel_rfl) Tryz.func4 (by kernel_rfl)
  (of_decide_eq_true (by kernel_rfl)) (by unfold Func.isWrapper;rw[U (of_decide_eq_false (by kernel_rfl))];exact⟨rfl,rfl⟩)
  (λQ y H E _=>stepMeans_lifted Q y H E)
end Go.Proofs.YtgblgbgjmgjfkaaGreat
