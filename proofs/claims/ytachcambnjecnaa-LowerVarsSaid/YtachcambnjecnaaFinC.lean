/-
  Whatever the input, the law LowerVars answers true and leaves its arguments as they were. There are no conditions.
-/
import Derived.Test.YtachcambnjecnaaY
import Derived.Test.YtachcambnjecnaaTab

set_option maxRecDepth 100000
namespace Go.Proofs.Ytachcambnjecnaa
open Ax Go
theorem lowerVars_lifted (os:Os)(started:os.Started)(H:Type)(enc:TypeId×Value->H) :
  ReturnsInHanded {} Try.checked os 6 .any (Rows.lowerVarsSpec.pre6 enc Try.prog Try.f6 Rows.lowerVarsRow.domain false) (Rows.lowerVarsSpec.post enc Try.prog Try.f6 false true false false):=by
 have hp:Try.f6.params.toList=[32]:=by kernel_rfl
 refine law_lifted (tb:=4) hom started (by kernel_rfl) Try.func6 (by decide)
  (ChangeSpec.witness6 (enc:=enc) (C:=Try.checked) false ⟨#[],#[.slice none 0 0],[]⟩ 8 (by kernel_rfl) (by kernel_rfl) (by kernel_rfl) (by kernel_rfl))
  (by kernel_rfl) rfl (by kernel_rfl) (by kernel_rfl) (λds hl=>?_) (λl has=>?_)
 ·rw[hp]at hl
  match ds,hl with
  |[d1],_=>exact⟨rfl,rfl,rfl⟩
 ·rw[hp]at has
  obtain⟨a,rfl,ha⟩:=OE has
  obtain⟨h1,h2⟩:=aii ha
  exact⟨[],MX.Rv h1 h2⟩
theorem lowerVars_holds:Rows.LowerVarsSaid:=
 OpenClaim.holds_of_wide 6 Try.f6 rfl rfl rfl rfl rfl rfl rfl ⟨rfl,rfl,rfl,rfl,rfl⟩ rfl rfl rfl rfl rfl (by kernel_rfl) Try.func6 (by kernel_rfl)
  (of_decide_eq_true (by kernel_rfl)) (by unfold Func.isWrapper;rw[if_neg (of_decide_eq_false (by kernel_rfl))];exact⟨rfl,rfl⟩)
  (λos started H enc _=>lowerVars_lifted os started H enc)
end Go.Proofs.Ytachcambnjecnaa
