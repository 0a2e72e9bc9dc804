/-
  Whatever the input, the law SemPrinted answers true and leaves its arguments as they were. There are no conditions.
-/
import Derived.Test.YtpnadocbfbbboaaGreatY
import Derived.Test.YtpnadocbfbbboaaGreatTab

set_option maxRecDepth 100000
namespace Go.Proofs.YtpnadocbfbbboaaGreat
open Ax Go
theorem semPrinted_lifted(os:Os)(started:os.Started)(H:Type)(enc:TypeId×Value->H) :
  ReturnsInHanded {} Tryz.checked os 6 .any (Rows.semPrintedSpec.pre6 enc Tryz.prog Tryz.f6 Rows.semPrintedRow.domain false) (Rows.semPrintedSpec.post enc Tryz.prog Tryz.f6 false true false false):=by
 have hp:Tryz.f6.params.toList=[9,22,3]:=by kernel_rfl
 refine law_lifted (tb:=4) hom started (by kernel_rfl) Tryz.func6 (by decide)
  (ChangeSpec.witness6 (enc:=enc) (C:=Tryz.checked) false ⟨#[],#[.string ⟨#[]⟩,.slice none 0 0,.int .i64 0],[]⟩ 8 (by kernel_rfl) (by kernel_rfl) (by kernel_rfl) (by kernel_rfl))
  (by kernel_rfl) rfl (by kernel_rfl) (by kernel_rfl) (λds hl=>?_) (λl ct=>?_)
 rw[hp]at hl;match ds,hl with
 |[d1,d2,d3],_=>exact⟨rfl,rfl,rfl⟩
 rw[hp]at ct;obtain⟨a,b,c,rfl,ha,hb,hc⟩:=M8 ct;obtain⟨s,rfl⟩:=ty9 ha;obtain⟨h1,h2⟩:=anV hb;obtain⟨n,rfl⟩:=ty3 hc;exact Bp.Mf s h1 h2 n
theorem semPrinted_holds:Rows.SemPrintedSaid:=
 OpenClaim.holds_of_wide 6 Tryz.f6 rfl rfl rfl rfl rfl rfl rfl ⟨rfl,rfl,rfl,rfl,rfl⟩ rfl rfl rfl rfl rfl (by kernel_rfl) Tryz.func6 (by kernel_rfl)
  (of_decide_eq_true (by kernel_rfl)) (by unfold Func.isWrapper;rw[if_neg (of_decide_eq_false (by kernel_rfl))];exact⟨rfl,rfl⟩)
  (λos started H enc _=>semPrinted_lifted os started H enc)
end Go.Proofs.YtpnadocbfbbboaaGreat
