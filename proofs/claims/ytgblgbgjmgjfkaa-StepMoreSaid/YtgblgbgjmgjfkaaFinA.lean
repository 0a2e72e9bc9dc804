/-
  Whatever the input, the law StepMore answers true and leaves its arguments as they were. There are no conditions.
-/
import Derived.Test.YtgblgbgjmgjfkaaL
import Derived.Test.YtgblgbgjmgjfkaaTab

set_option maxRecDepth 100000
namespace Go.Proofs.Ytgblgbgjmgjfkaa
open Ax Go
theorem ty28 {a:AV}(h:TyV Try.prog 28 a):isI a=true/\IrV.notOwn a=true:=by
 obtain⟨v,e,h1,h2⟩:=s28 (tyV_one (fun fs h=>by rw[u28]at h;cases h) h)
 cases e
 exact⟨h1,h2⟩
theorem stepMore_lifted (os:Os)(started:os.Started)(H:Type)(enc:TypeId×Value->H) :
  ReturnsInHanded {} Try.checked os 3 .any (Rows.stepMoreSpec.pre6 enc Try.prog Try.f3 Rows.stepMoreRow.domain false) (Rows.stepMoreSpec.post enc Try.prog Try.f3 false true false false):=by
 have hp:Try.f3.params.toList=[27,28,3,3]:=by kernel_rfl
 refine law_lifted (tb:=4) hom started (by kernel_rfl) Try.func3 (by decide)
  (ChangeSpec.witness6 (enc:=enc) (C:=Try.checked) false ⟨#[],#[.agg #[.slice none 0 0,.slice none 0 0,.slice none 0 0,.slice none 0 0,.int .i64 0],.slice none 0 0,.int .i64 0,.int .i64 0],[]⟩ 8 (by kernel_rfl) (by kernel_rfl) (by kernel_rfl) (by kernel_rfl))
  (by kernel_rfl) rfl (by kernel_rfl) (by kernel_rfl) (fun ds hl=>?_) (fun l has=>?_)
 ·rw[hp]at hl
  match ds,hl with
  |[d1,d2,d3,d4],_=>exact⟨rfl,rfl,rfl⟩
 ·rw[hp]at has
  obtain⟨a,b,c,d,rfl,ha,hb,hc,hd⟩:=tyVs_four has
  obtain⟨x,rfl,hx⟩:=ty27 ha
  obtain⟨h1,h2⟩:=ty28 hb
  obtain⟨n,rfl,_⟩:=ty3 hc
  obtain⟨k,rfl,_⟩:=ty3 hd
  exact E14.law_more hx h1 h2 n k
theorem stepMore_holds:Rows.StepMoreSaid:=
 OpenClaim.holds_of_wide 3 Try.f3 rfl rfl rfl rfl rfl rfl rfl ⟨rfl,rfl,rfl,rfl,rfl⟩ rfl rfl rfl rfl rfl (by kernel_rfl) Try.func3 (by kernel_rfl)
  (of_decide_eq_true (by kernel_rfl)) (by unfold Func.isWrapper;rw[if_neg (of_decide_eq_false (by kernel_rfl))];exact⟨rfl,rfl⟩)
  (fun os started H enc _=>stepMore_lifted os started H enc)
end Go.Proofs.Ytgblgbgjmgjfkaa
