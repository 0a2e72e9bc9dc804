/-
  Whatever the input, the law StoreEdges answers true and leaves its arguments as they were. There are no conditions.
-/
import Derived.Test.YtkjajfhgdlhhhaaW
import Derived.Test.YtkjajfhgdlhhhaaTab

namespace Go.Proofs.Ytkjajfhgdlhhhaa
open Ax Go
set_option maxRecDepth 100000

theorem storeEdges_lifted (os : Os) (started : os.Started) (H : Type) (enc : TypeId × Value → H) :
    ReturnsInHanded {} Try.checked os 7 .any (Rows.storeEdgesSpec.pre6 enc Try.prog Try.f7 Rows.storeEdgesRow.domain false) (Rows.storeEdgesSpec.post enc Try.prog Try.f7 false true false false) := by
  have hp : Try.f7.params.toList = [3, 3] := by kernel_rfl
  refine law_lifted (tb := 4) hom started (by kernel_rfl) Try.func7 (by decide)
    (ChangeSpec.witness6 (enc := enc) (C := Try.checked) false ⟨#[], #[.int .i64 0, .int .i64 0], []⟩ 8 (by kernel_rfl) (by kernel_rfl) (by kernel_rfl) (by kernel_rfl))
    (by kernel_rfl) rfl (by kernel_rfl) (by kernel_rfl) (fun ds hl => ?_) (fun l has => ?_)
  · rw [hp] at hl
    match ds, hl with
    | [d1, d2], _ => exact ⟨rfl, rfl, rfl⟩
  · rw [hp] at has
    obtain ⟨a, b, rfl, ha, hb⟩ := tyVs_two has
    obtain ⟨n1, rfl, _⟩ := ty3 ha
    obtain ⟨n2, rfl, _⟩ := ty3 hb
    exact ⟨[], U10.law_edges n1 n2⟩

theorem storeEdges_holds : Rows.StoreEdgesSaid :=
  OpenClaim.holds_of_wide 7 Try.f7 rfl rfl rfl rfl rfl rfl rfl ⟨rfl, rfl, rfl, rfl, rfl⟩ rfl rfl rfl rfl rfl (by kernel_rfl) Try.func7 (by kernel_rfl)
    (of_decide_eq_true (by kernel_rfl)) (by unfold Func.isWrapper; rw [if_neg (of_decide_eq_false (by kernel_rfl))]; exact ⟨rfl, rfl⟩)
    (fun os started H enc _ => storeEdges_lifted os started H enc)
end Go.Proofs.Ytkjajfhgdlhhhaa
