/-
  Whatever the input, the law StepLoops answers true and leaves its arguments as they were. There are no conditions.
-/
import Derived.Test.YtgblgbgjmgjfkaaR
import Derived.Test.YtgblgbgjmgjfkaaTab

set_option maxRecDepth 100000
namespace Go.Proofs.Ytgblgbgjmgjfkaa
open Ax Go
theorem ty4 {a:AV}(h:TyV Try.prog 4 a):∃b,a=.bool b:=by
 obtain⟨b,e⟩:=ty_bool u4 (tyV_one (fun fs h=>by rw[u4]at h;cases h) h)
 cases e
 exact⟨b,rfl⟩
theorem stepLoops_lifted (os:Os)(started:os.Started)(H:Type)(enc:TypeId×Value->H) :
  ReturnsInHanded {} Try.checked os 4 .any (Rows.stepLoopsSpec.pre6 enc Try.prog Try.f4 Rows.stepLoopsRow.domain false) (Rows.stepLoopsSpec.post enc Try.prog Try.f4 false true false false):=by
 have hp:Try.f4.params.toList=[3,4,3]:=by kernel_rfl
 refine law_lifted (tb:=4) hom started (by kernel_rfl) Try.func4 (by decide)
  (ChangeSpec.witness6 (enc:=enc) (C:=Try.checked) false ⟨#[],#[.int .i64 0,.bool false,.int .i64 0],[]⟩ 8 (by kernel_rfl) (by kernel_rfl) (by kernel_rfl) (by kernel_rfl))
  (by kernel_rfl) rfl (by kernel_rfl) (by kernel_rfl) (fun ds hl=>?_) (fun l has=>?_)
 ·rw[hp]at hl
  match ds,hl with
  |[d1,d2,d3],_=>exact⟨rfl,rfl,rfl⟩
 ·rw[hp]at has
  obtain⟨a,b,c,rfl,ha,hb,hc⟩:=tyVs_three has
  obtain⟨n,rfl,_⟩:=ty3 ha
  obtain⟨w,rfl⟩:=ty4 hb
  obtain⟨k,rfl,_⟩:=ty3 hc
  exact E14.law_loops n w k
theorem stepLoops_holds:Rows.StepLoopsSaid:=
 OpenClaim.holds_of_wide 4 Try.f4 rfl rfl rfl rfl rfl rfl rfl ⟨rfl,rfl,rfl,rfl,rfl⟩ rfl rfl rfl rfl rfl (by kernel_rfl) Try.func4 (by kernel_rfl)
  (of_decide_eq_true (by kernel_rfl)) (by unfold Func.isWrapper;rw[if_neg (of_decide_eq_false (by kernel_rfl))];exact⟨rfl,rfl⟩)
  (fun os started H enc _=>stepLoops_lifted os started H enc)
end Go.Proofs.Ytgblgbgjmgjfkaa
