/-
  Whatever the input, the law TypedSigns answers true and leaves its arguments as they were. There are no conditions.
-/
import Derived.Test.YtfhfpnnmcdgdkaaT4
import Derived.Test.YtfhfpnnmcdgdkaaTab

namespace Go.Proofs.Ytfhfpnnmcdgdkaa
open Ax Go
set_option maxRecDepth 100000

theorem typedSigns_lifted (os : Os) (started : os.Started) (H : Type) (enc : TypeId × Value → H) :
    ReturnsInHanded {} Try.checked os 4 .any (Rows.typedSignsSpec.pre6 enc Try.prog Try.f4 Rows.typedSignsRow.domain false) (Rows.typedSignsSpec.post enc Try.prog Try.f4 false true false false) := by
  have hp : Try.f4.params.toList = [3, 3, 3] := by kernel_rfl
  refine law_lifted (tb := 4) hom started (by kernel_rfl) Try.func4 (by decide)
    (ChangeSpec.witness6 (enc := enc) (C := Try.checked) false ⟨#[], #[.int .i64 0, .int .i64 0, .int .i64 0], []⟩ 8 (by kernel_rfl) (by kernel_rfl) (by kernel_rfl) (by kernel_rfl))
    (by kernel_rfl) rfl (by kernel_rfl) (by kernel_rfl) (fun ds hl => ?_) (fun l has => ?_)
  · rw [hp] at hl
    match ds, hl with
    | [d1, d2, d3], _ => exact ⟨rfl, rfl, rfl⟩
  · rw [hp] at has
    obtain ⟨a, b, c, rfl, ha, hb, hc⟩ := tyVs_three has
    obtain ⟨i, rfl⟩ := ty3 ha
    obtain ⟨j, rfl⟩ := ty3 hb
    obtain ⟨k, rfl⟩ := ty3 hc
    exact ⟨[], K9.law_signs K9.ts_all i j k⟩

theorem typedSigns_holds : Rows.TypedSignsSaid :=
  OpenClaim.holds_of_wide 4 Try.f4 rfl rfl rfl rfl rfl rfl rfl ⟨rfl, rfl, rfl, rfl, rfl⟩ rfl rfl rfl rfl rfl (by kernel_rfl) Try.func4 (by kernel_rfl)
    (of_decide_eq_true (by kernel_rfl)) (by unfold Func.isWrapper; rw [if_neg (of_decide_eq_false (by kernel_rfl))]; exact ⟨rfl, rfl⟩)
    (fun os started H enc _ => typedSigns_lifted os started H enc)
end Go.Proofs.Ytfhfpnnmcdgdkaa
