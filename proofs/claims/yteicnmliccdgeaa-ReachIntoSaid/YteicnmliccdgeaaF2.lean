/-
  Whatever the input, the law ReachInto answers true and leaves its arguments as they were. There are no conditions.
-/
import Derived.Test.YteicnmliccdgeaaW
import Derived.Test.YteicnmliccdgeaaTab

namespace Go.Proofs.Yteicnmliccdgeaa
open Ax Go
set_option maxRecDepth 100000

theorem reachInto_lifted (os : Os) (started : os.Started) (H : Type) (enc : TypeId × Value → H) :
    ReturnsInHanded {} Try.checked os 4 .any (Rows.reachIntoSpec.pre6 enc Try.prog Try.f4 Rows.reachIntoRow.domain false) (Rows.reachIntoSpec.post enc Try.prog Try.f4 false true false false) := by
  have hp : Try.f4.params.toList = [22, 3] := by kernel_rfl
  refine law_lifted (tb := 4) hom started (by kernel_rfl) Try.func4 (by decide)
    (ChangeSpec.witness6 (enc := enc) (C := Try.checked) false ⟨#[], #[.slice none 0 0, .int .i64 0], []⟩ 8 (by kernel_rfl) (by kernel_rfl) (by kernel_rfl) (by kernel_rfl))
    (by kernel_rfl) rfl (by kernel_rfl) (by kernel_rfl) (fun ds hl => ?_) (fun l has => ?_)
  · rw [hp] at hl
    match ds, hl with
    | [d1, d2], _ => exact ⟨rfl, rfl, rfl⟩
  · rw [hp] at has
    obtain ⟨a, b, rfl, ha, hb⟩ := tyVs_two has
    obtain ⟨n, rfl, _⟩ := ty3 hb
    obtain ⟨g, hg⟩ := U22.exists_g
    exact ⟨[], U22.law_into g hg a n (ty22 ha)⟩

theorem reachInto_holds : Rows.ReachIntoSaid :=
  OpenClaim.holds_of_wide 4 Try.f4 rfl rfl rfl rfl rfl rfl rfl ⟨rfl, rfl, rfl, rfl, rfl⟩ rfl rfl rfl rfl rfl (by kernel_rfl) Try.func4 (by kernel_rfl)
    (of_decide_eq_true (by kernel_rfl)) (by unfold Func.isWrapper; rw [if_neg (of_decide_eq_false (by kernel_rfl))]; exact ⟨rfl, rfl⟩)
    (fun os started H enc _ => reachInto_lifted os started H enc)
end Go.Proofs.Yteicnmliccdgeaa
