/-
  Whatever the input, the law StepRuns answers true and leaves its arguments as they were. There are no conditions.
-/
import Derived.Test.YtgblgbgjmgjfkaaGreatKE
import Derived.Test.YtgblgbgjmgjfkaaGreatTab

set_option maxRecDepth 100000
namespace Go.Proofs.YtgblgbgjmgjfkaaGreat
open Ax Go
theorem ty28{a:AV}(h:TyV Tryz.prog 28 a):isI a=true/\IrV.notOwn a=true:=by
 obtain⟨v,e,h1,h2⟩:=s28 (tyV_one (fun fs h=>by rw[u28]at h;cases h) h)
 cases e
 exact⟨h1,h2⟩
theorem stepRuns_lifted(os:Os)(started:os.Started)(H:Type)(enc:TypeId×Value->H) :
  ReturnsInHanded {} Tryz.checked os 3 .any (Rows.stepRunsSpec.pre6 enc Tryz.prog Tryz.f3 Rows.stepRunsRow.domain false) (Rows.stepRunsSpec.post enc Tryz.prog Tryz.f3 false true false false):=by
 have hp:Tryz.f3.params.toList=[27,28,3]:=by kernel_rfl
 refine law_lifted (tb:=4) hom started (by kernel_rfl) Tryz.func3 (by decide)
  (ChangeSpec.witness6 (enc:=enc) (C:=Tryz.checked) false ⟨#[],#[.agg #[.slice none 0 0,.slice none 0 0,.slice none 0 0,.slice none 0 0,.int .i64 0],.slice none 0 0,.int .i64 0],[]⟩ 8 (by kernel_rfl) (by kernel_rfl) (by kernel_rfl) (by kernel_rfl))
  (by kernel_rfl) rfl (by kernel_rfl) (by kernel_rfl) (fun ds hl=>?_) (fun l has=>?_)
 ·rw[hp]at hl
  match ds,hl with
  |[d1,d2,d3],_=>exact⟨rfl,rfl,rfl⟩
 ·rw[hp]at has
  obtain⟨a,b,c,rfl,ha,hb,hc⟩:=tyVs_three has
  obtain⟨x,rfl,hx⟩:=ty27 ha
  obtain⟨h1,h2⟩:=ty28 hb
  obtain⟨n,rfl,_⟩:=ty3 hc
  exact E13.law_runs hx h1 h2 n
theorem stepRuns_holds:Rows.StepRunsSaid:=
 OpenClaim.holds_of_wide 3 Tryz.f3 rfl rfl rfl rfl rfl rfl rfl ⟨rfl,rfl,rfl,rfl,rfl⟩ rfl rfl rfl rfl rfl (by kernel_rfl) Tryz.func3 (by kernel_rfl)
  (of_decide_eq_true (by kernel_rfl)) (by unfold Func.isWrapper;rw[if_neg (of_decide_eq_false (by kernel_rfl))];exact⟨rfl,rfl⟩)
  (fun os started H enc _=>stepRuns_lifted os started H enc)
end Go.Proofs.YtgblgbgjmgjfkaaGreat
