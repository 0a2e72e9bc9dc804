/-
  Whatever the text, the law TypedAgain answers true and leaves its arguments as they were. There are no conditions.
-/
import Derived.Test.YtfhfpnnmcdgdkaaA
import Derived.Test.YtfhfpnnmcdgdkaaTab

namespace Go.Proofs.Ytfhfpnnmcdgdkaa
open Ax Go
set_option maxRecDepth 100000

theorem typedAgain_lifted (os : Os) (started : os.Started) (H : Type) (enc : TypeId × Value → H) :
    ReturnsInHanded {} Try.checked os 3 .any (Rows.typedAgainSpec.pre6 enc Try.prog Try.f3 Rows.typedAgainRow.domain false) (Rows.typedAgainSpec.post enc Try.prog Try.f3 false true false false) := by
  have hp : Try.f3.params.toList = [9] := by kernel_rfl
  refine law_lifted (tb := 4) hom started (by kernel_rfl) Try.func3 (by decide)
    (ChangeSpec.witness6 (enc := enc) (C := Try.checked) false ⟨#[], #[.string ⟨#[]⟩], []⟩ 8 (by kernel_rfl) (by kernel_rfl) (by kernel_rfl) (by kernel_rfl))
    (by kernel_rfl) rfl (by kernel_rfl) (by kernel_rfl) (fun ds hl => ?_) (fun l has => ?_)
  · rw [hp] at hl
    match ds, hl with
    | [d1], _ => exact ⟨rfl, rfl, rfl⟩
  · rw [hp] at has
    obtain ⟨a, rfl, ha⟩ := tyVs_one has
    obtain ⟨s, rfl⟩ := ty9 ha
    exact ⟨[], K9.law_again s⟩

theorem typedAgain_holds : Rows.TypedAgainSaid :=
  OpenClaim.holds_of_wide 3 Try.f3 rfl rfl rfl rfl rfl rfl rfl ⟨rfl, rfl, rfl, rfl, rfl⟩ rfl rfl rfl rfl rfl (by kernel_rfl) Try.func3 (by kernel_rfl)
    (of_decide_eq_true (by kernel_rfl)) (by unfold Func.isWrapper; rw [if_neg (of_decide_eq_false (by kernel_rfl))]; exact ⟨rfl, rfl⟩)
    (fun os started H enc _ => typedAgain_lifted os started H enc)
end Go.Proofs.Ytfhfpnnmcdgdkaa
