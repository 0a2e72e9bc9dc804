/-
  Whatever the input, the law SureBranches answers true and leaves its arguments as they were. There are no conditions.
-/
import Derived.Test.YtegibojgmandmaaU
import Derived.Test.YtegibojgmandmaaTab

set_option maxRecDepth 100000
namespace Go.Proofs.Ytegibojgmandmaa
open Ax Go
theorem u37:Try.prog.underlying 37=some (.slice 4):=by kernel_rfl
theorem c4:Try.prog.cellsOf 4=1:=by kernel_rfl
theorem ty37 {a:AV}(h:TyV Try.prog 37 a):isSz 1 a=true/\(rowsL a).all S9.blRow=true:=by
 obtain⟨v,e,h1,h2,_⟩:=ty_slice u37 (tyV_one (fun fs h=>by rw[u37]at h;cases h) h)
 cases e
 rw[c4]at h1
 refine⟨h1,List.all_eq_true.2 fun r hr=>?_⟩
 obtain⟨b,rfl⟩:=ty_bool u4 (h2 r hr)
 rfl
theorem sureBranches_lifted (os:Os)(started:os.Started)(H:Type)(enc:TypeId×Value->H) :
  ReturnsInHanded {} Try.checked os 4 .any (Rows.sureBranchesSpec.pre6 enc Try.prog Try.f4 Rows.sureBranchesRow.domain false) (Rows.sureBranchesSpec.post enc Try.prog Try.f4 false true false false):=by
 have hp:Try.f4.params.toList=[37]:=by kernel_rfl
 refine law_lifted (tb:=4) hom started (by kernel_rfl) Try.func4 (by decide)
  (ChangeSpec.witness6 (enc:=enc) (C:=Try.checked) false ⟨#[],#[.slice none 0 0],[]⟩ 8 (by kernel_rfl) (by kernel_rfl) (by kernel_rfl) (by kernel_rfl))
  (by kernel_rfl) rfl (by kernel_rfl) (by kernel_rfl) (fun ds hl=>?_) (fun l has=>?_)
 ·rw[hp]at hl
  match ds,hl with
  |[d1],_=>exact⟨rfl,rfl,rfl⟩
 ·rw[hp]at has
  obtain⟨a,rfl,ha⟩:=tyVs_one has
  obtain⟨h1,h2⟩:=ty37 ha
  exact⟨[],S9.law_branches a h1 h2⟩
theorem sureBranches_holds:Rows.SureBranchesSaid:=
 OpenClaim.holds_of_wide 4 Try.f4 rfl rfl rfl rfl rfl rfl rfl ⟨rfl,rfl,rfl,rfl,rfl⟩ rfl rfl rfl rfl rfl (by kernel_rfl) Try.func4 (by kernel_rfl)
  (of_decide_eq_true (by kernel_rfl)) (by unfold Func.isWrapper;rw[if_neg (of_decide_eq_false (by kernel_rfl))];exact⟨rfl,rfl⟩)
  (fun os started H enc _=>sureBranches_lifted os started H enc)
end Go.Proofs.Ytegibojgmandmaa
