/-
  Whatever the input, the law ReachMore answers true and leaves its arguments as they were. There are no conditions.
-/
import Derived.Test.YteicnmliccdgeaaW
import Derived.Test.YteicnmliccdgeaaTab

namespace Go.Proofs.Yteicnmliccdgeaa
open Ax Go
set_option maxRecDepth 100000

theorem reachMore_lifted (os : Os) (started : os.Started) (H : Type) (enc : TypeId × Value → H) :
    ReturnsInHanded {} Try.checked os 7 .any (Rows.reachMoreSpec.pre6 enc Try.prog Try.f7 Rows.reachMoreRow.domain false) (Rows.reachMoreSpec.post enc Try.prog Try.f7 false true false false) := by
  have hp : Try.f7.params.toList = [22, 23, 3, 3] := by kernel_rfl
  refine law_lifted (tb := 4) hom started (by kernel_rfl) Try.func7 (by decide)
    (ChangeSpec.witness6 (enc := enc) (C := Try.checked) false ⟨#[], #[.slice none 0 0, .slice none 0 0, .int .i64 0, .int .i64 0], []⟩ 8 (by kernel_rfl) (by kernel_rfl) (by kernel_rfl) (by kernel_rfl))
    (by kernel_rfl) rfl (by kernel_rfl) (by kernel_rfl) (fun ds hl => ?_) (fun l has => ?_)
  · rw [hp] at hl
    match ds, hl with
    | [d1, d2, d3, d4], _ => exact ⟨rfl, rfl, rfl⟩
  · rw [hp] at has
    obtain ⟨a, b, c, d, rfl, ha, hb, hc, hd⟩ := tyVs_four has
    obtain ⟨n, rfl, _⟩ := ty3 hc
    obtain ⟨k, rfl, _⟩ := ty3 hd
    obtain ⟨g, hg⟩ := U22.exists_g
    exact ⟨[], U22.law_more g hg a b n k (ty22 ha) (ty23 hb)⟩

theorem reachMore_holds : Rows.ReachMoreSaid :=
  OpenClaim.holds_of_wide 7 Try.f7 rfl rfl rfl rfl rfl rfl rfl ⟨rfl, rfl, rfl, rfl, rfl⟩ rfl rfl rfl rfl rfl (by kernel_rfl) Try.func7 (by kernel_rfl)
    (of_decide_eq_true (by kernel_rfl)) (by unfold Func.isWrapper; rw [if_neg (of_decide_eq_false (by kernel_rfl))]; exact ⟨rfl, rfl⟩)
    (fun os started H enc _ => reachMore_lifted os started H enc)
end Go.Proofs.Yteicnmliccdgeaa
