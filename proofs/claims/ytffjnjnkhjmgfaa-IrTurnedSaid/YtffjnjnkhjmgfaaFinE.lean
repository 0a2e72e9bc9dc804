/-
  Whatever the input, the law IrTurned answers true and leaves its arguments as they were. There are no conditions.
-/
import Derived.Test.YtffjnjnkhjmgfaaTurn
import Derived.Test.YtffjnjnkhjmgfaaTab

namespace Go.Proofs.Ytffjnjnkhjmgfaa
open Ax Go IrV
set_option maxRecDepth 100000

theorem irTurned_lifted (os : Os) (started : os.Started) (H : Type) (enc : TypeId × Value → H) :
    ReturnsInHanded {} Try.checked os 5 .any (Rows.irTurnedSpec.pre6 enc Try.prog Try.f5 Rows.irTurnedRow.domain false) (Rows.irTurnedSpec.post enc Try.prog Try.f5 false true false false) := by
  have hp : Try.f5.params.toList = [27, 3, 3, 32] := by kernel_rfl
  refine law_lifted (tb := 4) hom started (by kernel_rfl) Try.func5 (by decide)
    (ChangeSpec.witness6 (enc := enc) (C := Try.checked) false ⟨#[], #[.agg #[.slice none 0 0, .slice none 0 0, .slice none 0 0, .slice none 0 0, .int .i64 0], .int .i64 0, .int .i64 0, .agg #[.int .i64 0, .int .i64 0, .int .i64 0, .int .i64 0, .int .i64 0, .slice none 0 0]], []⟩ 8 (by kernel_rfl) (by kernel_rfl) (by kernel_rfl) (by kernel_rfl))
    (by kernel_rfl) rfl (by kernel_rfl) (by kernel_rfl) (fun ds hl => ?_) (fun l has => ?_)
  · rw [hp] at hl
    match ds, hl with
    | [d1, d2, d3, d4], _ => exact ⟨rfl, rfl, rfl⟩
  · rw [hp] at has
    obtain ⟨a, b, c, d, rfl, ha, hb, hc, hd⟩ := tyVs_four has
    obtain ⟨x, rfl, hx⟩ := ty27 ha
    obtain ⟨n1, rfl, _⟩ := ty3 hb
    obtain ⟨n2, rfl, _⟩ := ty3 hc
    obtain ⟨xs, rfl, hts⟩ := tyV_flds f32 hd
    obtain ⟨i, rfl, hrow⟩ := s32 hts
    have hrow2 := hrow
    simp only [ID.cells, idRow, Bool.and_eq_true] at hrow2
    exact ⟨[], U12.law_turned x n1 n2 i hx hrow2.2 hrow2.1.2 hrow⟩

theorem irTurned_holds : Rows.IrTurnedSaid :=
  OpenClaim.holds_of_wide 5 Try.f5 rfl rfl rfl rfl rfl rfl rfl ⟨rfl, rfl, rfl, rfl, rfl⟩ rfl rfl rfl rfl rfl (by kernel_rfl) Try.func5 (by kernel_rfl)
    (of_decide_eq_true (by kernel_rfl)) (by unfold Func.isWrapper; rw [if_neg (of_decide_eq_false (by kernel_rfl))]; exact ⟨rfl, rfl⟩)
    (fun os started H enc _ => irTurned_lifted os started H enc)
end Go.Proofs.Ytffjnjnkhjmgfaa
