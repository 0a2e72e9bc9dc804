/-
  Whatever the input, the law IrCells answers true and leaves its arguments as they were. There are no conditions.
-/
import Derived.Test.YtffjnjnkhjmgfaaQ
import Derived.Test.YtffjnjnkhjmgfaaTab

namespace Go.Proofs.Ytffjnjnkhjmgfaa
open Ax Go
set_option maxRecDepth 100000

theorem irCells_lifted (os : Os) (started : os.Started) (H : Type) (enc : TypeId × Value → H) :
    ReturnsInHanded {} Try.checked os 7 .any (Rows.irCellsSpec.pre6 enc Try.prog Try.f7 Rows.irCellsRow.domain false) (Rows.irCellsSpec.post enc Try.prog Try.f7 false true false false) := by
  have hp : Try.f7.params.toList = [27, 3] := by kernel_rfl
  refine law_lifted (tb := 4) hom started (by kernel_rfl) Try.func7 (by decide)
    (ChangeSpec.witness6 (enc := enc) (C := Try.checked) false ⟨#[], #[.agg #[.slice none 0 0, .slice none 0 0, .slice none 0 0, .slice none 0 0, .int .i64 0], .int .i64 0], []⟩ 8 (by kernel_rfl) (by kernel_rfl) (by kernel_rfl) (by kernel_rfl))
    (by kernel_rfl) rfl (by kernel_rfl) (by kernel_rfl) (fun ds hl => ?_) (fun l has => ?_)
  · rw [hp] at hl
    match ds, hl with
    | [d1, d2], _ => exact ⟨rfl, rfl, rfl⟩
  · rw [hp] at has
    obtain ⟨a, b, rfl, ha, hb⟩ := tyVs_two has
    obtain ⟨x, rfl, hx⟩ := ty27 ha
    obtain ⟨n, rfl, _⟩ := ty3 hb
    exact ⟨[], U12.law_cells x n hx⟩

theorem irCells_holds : Rows.IrCellsSaid :=
  OpenClaim.holds_of_wide 7 Try.f7 rfl rfl rfl rfl rfl rfl rfl ⟨rfl, rfl, rfl, rfl, rfl⟩ rfl rfl rfl rfl rfl (by kernel_rfl) Try.func7 (by kernel_rfl)
    (of_decide_eq_true (by kernel_rfl)) (by unfold Func.isWrapper; rw [if_neg (of_decide_eq_false (by kernel_rfl))]; exact ⟨rfl, rfl⟩)
    (fun os started H enc _ => irCells_lifted os started H enc)
end Go.Proofs.Ytffjnjnkhjmgfaa
