/-
  Whatever the input, the law IrSteps answers true and leaves its arguments as they were. There are no conditions.
-/
import Derived.Test.YtffjnjnkhjmgfaaP
import Derived.Test.YtffjnjnkhjmgfaaTab

namespace Go.Proofs.Ytffjnjnkhjmgfaa
open Ax Go
set_option maxRecDepth 100000

theorem irSteps_lifted (os : Os) (started : os.Started) (H : Type) (enc : TypeId × Value → H) :
    ReturnsInHanded {} Try.checked os 4 .any (Rows.irStepsSpec.pre6 enc Try.prog Try.f4 Rows.irStepsRow.domain false) (Rows.irStepsSpec.post enc Try.prog Try.f4 false true false false) := by
  have hp : Try.f4.params.toList = [27, 3, 32] := by kernel_rfl
  refine law_lifted (tb := 4) hom started (by kernel_rfl) Try.func4 (by decide)
    (ChangeSpec.witness6 (enc := enc) (C := Try.checked) false ⟨#[], #[.agg #[.slice none 0 0, .slice none 0 0, .slice none 0 0, .slice none 0 0, .int .i64 0], .int .i64 0, .agg #[.int .i64 0, .int .i64 0, .int .i64 0, .int .i64 0, .int .i64 0, .slice none 0 0]], []⟩ 8 (by kernel_rfl) (by kernel_rfl) (by kernel_rfl) (by kernel_rfl))
    (by kernel_rfl) rfl (by kernel_rfl) (by kernel_rfl) (fun ds hl => ?_) (fun l has => ?_)
  · rw [hp] at hl
    match ds, hl with
    | [d1, d2, d3], _ => exact ⟨rfl, rfl, rfl⟩
  · rw [hp] at has
    obtain ⟨a, b, c, rfl, ha, hb, hc⟩ := tyVs_three has
    obtain ⟨x, rfl, hx⟩ := ty27 ha
    obtain ⟨n, rfl, _⟩ := ty3 hb
    obtain ⟨i, rfl, hi, hno⟩ := ty32 hc
    exact ⟨[], U12.law_steps x n i hx hi hno⟩

theorem irSteps_holds : Rows.IrStepsSaid :=
  OpenClaim.holds_of_wide 4 Try.f4 rfl rfl rfl rfl rfl rfl rfl ⟨rfl, rfl, rfl, rfl, rfl⟩ rfl rfl rfl rfl rfl (by kernel_rfl) Try.func4 (by kernel_rfl)
    (of_decide_eq_true (by kernel_rfl)) (by unfold Func.isWrapper; rw [if_neg (of_decide_eq_false (by kernel_rfl))]; exact ⟨rfl, rfl⟩)
    (fun os started H enc _ => irSteps_lifted os started H enc)
end Go.Proofs.Ytffjnjnkhjmgfaa
