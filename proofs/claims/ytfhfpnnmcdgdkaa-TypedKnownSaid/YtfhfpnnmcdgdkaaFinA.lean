/-
  Whatever the input, the law TypedKnown answers true and leaves its arguments as they were. There are no conditions.
-/
import Derived.Test.YtfhfpnnmcdgdkaaW
import Derived.Test.YtfhfpnnmcdgdkaaTab

namespace Go.Proofs.Ytfhfpnnmcdgdkaa
open Ax Go
set_option maxRecDepth 100000

theorem typedKnown_lifted (os : Os) (started : os.Started) (H : Type) (enc : TypeId × Value → H) :
    ReturnsInHanded {} Try.checked os 5 .any (Rows.typedKnownSpec.pre6 enc Try.prog Try.f5 Rows.typedKnownRow.domain false) (Rows.typedKnownSpec.post enc Try.prog Try.f5 false true false false) := by
  have hp : Try.f5.params.toList = [3, 4] := by kernel_rfl
  refine law_lifted (tb := 4) hom started (by kernel_rfl) Try.func5 (by decide)
    (ChangeSpec.witness6 (enc := enc) (C := Try.checked) false ⟨#[], #[.int .i64 0, .bool false], []⟩ 8 (by kernel_rfl) (by kernel_rfl) (by kernel_rfl) (by kernel_rfl))
    (by kernel_rfl) rfl (by kernel_rfl) (by kernel_rfl) (fun ds hl => ?_) (fun l has => ?_)
  · rw [hp] at hl
    match ds, hl with
    | [d1, d2], _ => exact ⟨rfl, rfl, rfl⟩
  · rw [hp] at has
    obtain ⟨a, b, rfl, ha, hb⟩ := tyVs_two has
    obtain ⟨n, rfl⟩ := ty3 ha
    obtain ⟨c, rfl⟩ := ty4 hb
    exact ⟨[], U2.law_known n c⟩

theorem typedKnown_holds : Rows.TypedKnownSaid :=
  OpenClaim.holds_of_wide 5 Try.f5 rfl rfl rfl rfl rfl rfl rfl ⟨rfl, rfl, rfl, rfl, rfl⟩ rfl rfl rfl rfl rfl (by kernel_rfl) Try.func5 (by kernel_rfl)
    (of_decide_eq_true (by kernel_rfl)) (by unfold Func.isWrapper; rw [if_neg (of_decide_eq_false (by kernel_rfl))]; exact ⟨rfl, rfl⟩)
    (fun os started H enc _ => typedKnown_lifted os started H enc)
end Go.Proofs.Ytfhfpnnmcdgdkaa
