/-
  Whatever the input, the law SemMore answers true and leaves its arguments as they were. There are no conditions.
-/
import Derived.Test.YtpnadocbfbbboaaGreatH
import Derived.Test.YtpnadocbfbbboaaGreatTab

set_option maxRecDepth 100000
namespace Go.Proofs.YtpnadocbfbbboaaGreat
open Ax Go
theorem semMore_lifted (os:Os)(started:os.Started)(H:Type)(enc:TypeId×Value->H) :
  ReturnsInHanded {} Tryz.checked os 4 .any (Rows.semMoreSpec.pre6 enc Tryz.prog Tryz.f4 Rows.semMoreRow.domain false) (Rows.semMoreSpec.post enc Tryz.prog Tryz.f4 false true false false):=by
 have hp:Tryz.f4.params.toList=[9,22,3,3]:=by kernel_rfl
 refine law_lifted (tb:=4) hom started (by kernel_rfl) Tryz.func4 (by decide)
  (ChangeSpec.witness6 (enc:=enc) (C:=Tryz.checked) false ⟨#[],#[.string ⟨#[]⟩,.slice none 0 0,.int .i64 0,.int .i64 0],[]⟩ 8 (by kernel_rfl) (by kernel_rfl) (by kernel_rfl) (by kernel_rfl))
  (by kernel_rfl) rfl (by kernel_rfl) (by kernel_rfl) (fun ds hl=>?_) (fun l has=>?_)
 ·rw[hp]at hl
  match ds,hl with
  |[d1,d2,d3,d4],_=>exact⟨rfl,rfl,rfl⟩
 ·rw[hp]at has
  obtain⟨a,b,c,d,rfl,ha,hb,hc,hd⟩:=tyVs_four has
  obtain⟨s,rfl⟩:=ty9 ha
  obtain⟨h1,h2⟩:=ty22 hb
  obtain⟨n,rfl⟩:=ty3 hc
  obtain⟨k,rfl⟩:=ty3 hd
  exact E11.law_more s h1 h2 n k
theorem semMore_holds:Rows.SemMoreSaid:=
 OpenClaim.holds_of_wide 4 Tryz.f4 rfl rfl rfl rfl rfl rfl rfl ⟨rfl,rfl,rfl,rfl,rfl⟩ rfl rfl rfl rfl rfl (by kernel_rfl) Tryz.func4 (by kernel_rfl)
  (of_decide_eq_true (by kernel_rfl)) (by unfold Func.isWrapper;rw[if_neg (of_decide_eq_false (by kernel_rfl))];exact⟨rfl,rfl⟩)
  (fun os started H enc _=>semMore_lifted os started H enc)
end Go.Proofs.YtpnadocbfbbboaaGreat
