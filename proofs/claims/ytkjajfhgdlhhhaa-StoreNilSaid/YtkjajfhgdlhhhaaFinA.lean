/-
  Whatever the input, the law StoreNil answers true and leaves its arguments as they were. There are no conditions.
-/
import Derived.Test.YtkjajfhgdlhhhaaW
import Derived.Test.YtkjajfhgdlhhhaaTab

namespace Go.Proofs.Ytkjajfhgdlhhhaa
open Ax Go
set_option maxRecDepth 100000

theorem storeNil_lifted (os : Os) (started : os.Started) (H : Type) (enc : TypeId × Value → H) :
    ReturnsInHanded {} Try.checked os 5 .any (Rows.storeNilSpec.pre6 enc Try.prog Try.f5 Rows.storeNilRow.domain false) (Rows.storeNilSpec.post enc Try.prog Try.f5 false true false false) := by
  have hp : Try.f5.params.toList = [3, 3, 3] := by kernel_rfl
  refine law_lifted (tb := 4) hom started (by kernel_rfl) Try.func5 (by decide)
    (ChangeSpec.witness6 (enc := enc) (C := Try.checked) false ⟨#[], #[.int .i64 0, .int .i64 0, .int .i64 0], []⟩ 8 (by kernel_rfl) (by kernel_rfl) (by kernel_rfl) (by kernel_rfl))
    (by kernel_rfl) rfl (by kernel_rfl) (by kernel_rfl) (fun ds hl => ?_) (fun l has => ?_)
  · rw [hp] at hl
    match ds, hl with
    | [d1, d2, d3], _ => exact ⟨rfl, rfl, rfl⟩
  · rw [hp] at has
    obtain ⟨a, b, c, rfl, ha, hb, hc⟩ := tyVs_three has
    obtain ⟨n1, rfl, _⟩ := ty3 ha
    obtain ⟨n2, rfl, _⟩ := ty3 hb
    obtain ⟨n3, rfl, _⟩ := ty3 hc
    exact ⟨[], U10.law_nil n1 n2 n3⟩

theorem storeNil_holds : Rows.StoreNilSaid :=
  OpenClaim.holds_of_wide 5 Try.f5 rfl rfl rfl rfl rfl rfl rfl ⟨rfl, rfl, rfl, rfl, rfl⟩ rfl rfl rfl rfl rfl (by kernel_rfl) Try.func5 (by kernel_rfl)
    (of_decide_eq_true (by kernel_rfl)) (by unfold Func.isWrapper; rw [if_neg (of_decide_eq_false (by kernel_rfl))]; exact ⟨rfl, rfl⟩)
    (fun os started H enc _ => storeNil_lifted os started H enc)
end Go.Proofs.Ytkjajfhgdlhhhaa
