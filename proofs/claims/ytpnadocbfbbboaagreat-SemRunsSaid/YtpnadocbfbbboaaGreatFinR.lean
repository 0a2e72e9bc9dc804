/-
  Whatever the input, the law SemRuns answers true and leaves its arguments as they were. There are no conditions.
-/
import Derived.Test.YtpnadocbfbbboaaGreatY
import Derived.Test.YtpnadocbfbbboaaGreatTab

set_option maxRecDepth 100000
namespace Go.Proofs.YtpnadocbfbbboaaGreat
open Ax Go
theorem semRuns_lifted(os:Os)(started:os.Started)(H:Type)(enc:TypeId×Value->H) :
  ReturnsInHanded {} Tryz.checked os 3 .any (Rows.semRunsSpec.pre6 enc Tryz.prog Tryz.f3 Rows.semRunsRow.domain false) (Rows.semRunsSpec.post enc Tryz.prog Tryz.f3 false true false false):=by
 have hp:Tryz.f3.params.toList=[9,22,3]:=by kernel_rfl
 refine law_lifted (tb:=4) hom started (by kernel_rfl) Tryz.func3 (by decide)
  (ChangeSpec.witness6 (enc:=enc) (C:=Tryz.checked) false ⟨#[],#[.string ⟨#[]⟩,.slice none 0 0,.int .i64 0],[]⟩ 8 (by kernel_rfl) (by kernel_rfl) (by kernel_rfl) (by kernel_rfl))
  (by kernel_rfl) rfl (by kernel_rfl) (by kernel_rfl) (λds hl=>?_) (λl cP=>?_)
 rw[hp]at hl;match ds,hl with
 |[d1,d2,d3],_=>exact⟨rfl,rfl,rfl⟩
 rw[hp]at cP;obtain⟨a,b,c,rfl,ha,hb,hc⟩:=MB cP;obtain⟨s,rfl⟩:=ty9 ha;obtain⟨h1,h2⟩:=amK hb;obtain⟨n,rfl⟩:=ty3 hc;exact CL.VC s h1 h2 n
theorem semRuns_holds:Rows.SemRunsSaid:=
 OpenClaim.holds_of_wide 3 Tryz.f3 rfl rfl rfl rfl rfl rfl rfl ⟨rfl,rfl,rfl,rfl,rfl⟩ rfl rfl rfl rfl rfl (by kernel_rfl) Tryz.func3 (by kernel_rfl)
  (of_decide_eq_true (by kernel_rfl)) (by unfold Func.isWrapper;rw[U (of_decide_eq_false (by kernel_rfl))];exact⟨rfl,rfl⟩)
  (λos started H enc _=>semRuns_lifted os started H enc)
end Go.Proofs.YtpnadocbfbbboaaGreat
