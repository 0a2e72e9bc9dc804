/-
  Whatever the input, the law ReachTwice answers true and leaves its arguments as they were. There are no conditions.
-/
import Derived.Test.YteicnmliccdgeaaW
import Derived.Test.YteicnmliccdgeaaTab

namespace Go.Proofs.Yteicnmliccdgeaa
open Ax Go
set_option maxRecDepth 100000

theorem reachTwice_lifted (os : Os) (started : os.Started) (H : Type) (enc : TypeId × Value → H) :
    ReturnsInHanded {} Try.checked os 5 .any (Rows.reachTwiceSpec.pre6 enc Try.prog Try.f5 Rows.reachTwiceRow.domain false) (Rows.reachTwiceSpec.post enc Try.prog Try.f5 false true false false) := by
  have hp : Try.f5.params.toList = [22, 23, 23] := by kernel_rfl
  refine law_lifted (tb := 4) hom started (by kernel_rfl) Try.func5 (by decide)
    (ChangeSpec.witness6 (enc := enc) (C := Try.checked) false ⟨#[], #[.slice none 0 0, .slice none 0 0, .slice none 0 0], []⟩ 8 (by kernel_rfl) (by kernel_rfl) (by kernel_rfl) (by kernel_rfl))
    (by kernel_rfl) rfl (by kernel_rfl) (by kernel_rfl) (fun ds hl => ?_) (fun l has => ?_)
  · rw [hp] at hl
    match ds, hl with
    | [d1, d2, d3], _ => exact ⟨rfl, rfl, rfl⟩
  · rw [hp] at has
    obtain ⟨f, a, b, rfl, hf, ha, hb⟩ := tyVs_three has
    obtain ⟨g, hg⟩ := U22.exists_g
    exact ⟨[], U22.law_twice g hg f a b (ty22 hf) (ty23 ha) (ty23 hb)⟩

theorem reachTwice_holds : Rows.ReachTwiceSaid :=
  OpenClaim.holds_of_wide 5 Try.f5 rfl rfl rfl rfl rfl rfl rfl ⟨rfl, rfl, rfl, rfl, rfl⟩ rfl rfl rfl rfl rfl (by kernel_rfl) Try.func5 (by kernel_rfl)
    (of_decide_eq_true (by kernel_rfl)) (by unfold Func.isWrapper; rw [if_neg (of_decide_eq_false (by kernel_rfl))]; exact ⟨rfl, rfl⟩)
    (fun os started H enc _ => reachTwice_lifted os started H enc)
end Go.Proofs.Yteicnmliccdgeaa
