/-
  Whatever the input, the law SemInput answers true and leaves its arguments as they were. There are no conditions.
-/
import Derived.Test.YtpnadocbfbbboaaGreatI
import Derived.Test.YtpnadocbfbbboaaGreatTab

set_option maxRecDepth 100000
namespace Go.Proofs.YtpnadocbfbbboaaGreat
open Ax Go
theorem semInput_lifted (os:Os)(started:os.Started)(H:Type)(enc:TypeId×Value->H) :
  ReturnsInHanded {} Tryz.checked os 5 .any (Rows.semInputSpec.pre6 enc Tryz.prog Tryz.f5 Rows.semInputRow.domain false) (Rows.semInputSpec.post enc Tryz.prog Tryz.f5 false true false false):=by
 have hp:Tryz.f5.params.toList=[9,22,22,3]:=by kernel_rfl
 refine law_lifted (tb:=4) hom started (by kernel_rfl) Tryz.func5 (by decide)
  (ChangeSpec.witness6 (enc:=enc) (C:=Tryz.checked) false ⟨#[],#[.string ⟨#[]⟩,.slice none 0 0,.slice none 0 0,.int .i64 0],[]⟩ 8 (by kernel_rfl) (by kernel_rfl) (by kernel_rfl) (by kernel_rfl))
  (by kernel_rfl) rfl (by kernel_rfl) (by kernel_rfl) (fun ds hl=>?_) (fun l has=>?_)
 ·rw[hp]at hl
  match ds,hl with
  |[d1,d2,d3,d4],_=>exact⟨rfl,rfl,rfl⟩
 ·rw[hp]at has
  obtain⟨a,b,c,d,rfl,ha,hb,hc,hd⟩:=tyVs_four has
  obtain⟨s,rfl⟩:=ty9 ha
  obtain⟨h1,h2⟩:=ty22 hb
  obtain⟨h3,h4⟩:=ty22 hc
  obtain⟨n,rfl⟩:=ty3 hd
  exact E11.law_input s h1 h2 h3 h4 n
theorem semInput_holds:Rows.SemInputSaid:=
 OpenClaim.holds_of_wide 5 Tryz.f5 rfl rfl rfl rfl rfl rfl rfl ⟨rfl,rfl,rfl,rfl,rfl⟩ rfl rfl rfl rfl rfl (by kernel_rfl) Tryz.func5 (by kernel_rfl)
  (of_decide_eq_true (by kernel_rfl)) (by unfold Func.isWrapper;rw[if_neg (of_decide_eq_false (by kernel_rfl))];exact⟨rfl,rfl⟩)
  (fun os started H enc _=>semInput_lifted os started H enc)
end Go.Proofs.YtpnadocbfbbboaaGreat
