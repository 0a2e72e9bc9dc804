/-
  Whatever the input, the law SureOdd answers true and leaves its arguments as they were. There are no conditions.
-/
import Derived.Test.YtegibojgmandmaaW
import Derived.Test.YtegibojgmandmaaTab

namespace Go.Proofs.Ytegibojgmandmaa
open Ax Go
set_option maxRecDepth 100000

theorem sureOdd_lifted (os : Os) (started : os.Started) (H : Type) (enc : TypeId × Value → H) :
    ReturnsInHanded {} Try.checked os 3 .any (Rows.sureOddSpec.pre6 enc Try.prog Try.f3 Rows.sureOddRow.domain false) (Rows.sureOddSpec.post enc Try.prog Try.f3 false true false false) := by
  have hp : Try.f3.params.toList = [3] := by kernel_rfl
  refine law_lifted (tb := 4) hom started (by kernel_rfl) Try.func3 (by decide)
    (ChangeSpec.witness6 (enc := enc) (C := Try.checked) false ⟨#[], #[.int .i64 0], []⟩ 8 (by kernel_rfl) (by kernel_rfl) (by kernel_rfl) (by kernel_rfl))
    (by kernel_rfl) rfl (by kernel_rfl) (by kernel_rfl) (fun ds hl => ?_) (fun l has => ?_)
  · rw [hp] at hl
    match ds, hl with
    | [d1], _ => exact ⟨rfl, rfl, rfl⟩
  · rw [hp] at has
    obtain ⟨a, rfl, ha⟩ := tyVs_one has
    obtain ⟨n, rfl⟩ := ty3 ha
    exact ⟨[], U2.law_odd n⟩

theorem sureOdd_holds : Rows.SureOddSaid :=
  OpenClaim.holds_of_wide 3 Try.f3 rfl rfl rfl rfl rfl rfl rfl ⟨rfl, rfl, rfl, rfl, rfl⟩ rfl rfl rfl rfl rfl (by kernel_rfl) Try.func3 (by kernel_rfl)
    (of_decide_eq_true (by kernel_rfl)) (by unfold Func.isWrapper; rw [if_neg (of_decide_eq_false (by kernel_rfl))]; exact ⟨rfl, rfl⟩)
    (fun os started H enc _ => sureOdd_lifted os started H enc)
end Go.Proofs.Ytegibojgmandmaa
