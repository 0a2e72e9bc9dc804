/-
  Whatever the input, the law ReachFrom answers true, and leaves its arguments as they were. There are no conditions.
-/
import Derived.Test.YteicnmliccdgeaaW
import Derived.Test.YteicnmliccdgeaaTab
import Derived.Test.YteicnmliccdgeaaA6

namespace Go.Proofs.Yteicnmliccdgeaa
open Ax Go
set_option maxRecDepth 100000

theorem hom : Home Code22.S Try.checked [3, 4, 22, 23] := ⟨by kernel_rfl, tab, kids_rows (by kernel_rfl) (by kernel_rfl), slices_full_of Try.prog (by kernel_rfl), by kernel_rfl⟩

theorem reachFrom_lifted (os : Os) (started : os.Started) (H : Type) (enc : TypeId × Value → H) :
    ReturnsInHanded {} Try.checked os 3 .any (Rows.reachFromSpec.pre6 enc Try.prog Try.f3 Rows.reachFromRow.domain false) (Rows.reachFromSpec.post enc Try.prog Try.f3 false true false false) := by
  refine law_lifted (tb := 4) hom started (by kernel_rfl) Try.func3 (by decide)
    (ChangeSpec.witness6 (enc := enc) (C := Try.checked) false ⟨#[], #[.slice none 0 0, .slice none 0 0], []⟩ 8 (by kernel_rfl) (by kernel_rfl) (by kernel_rfl) (by kernel_rfl))
    (by kernel_rfl) rfl (by kernel_rfl) (by kernel_rfl) (fun ds hl => ?_) (fun l has => ?_)
  · have hp : Try.f3.params.toList = [22, 23] := by kernel_rfl
    rw [hp] at hl
    match ds, hl with
    | [d1, d2], _ => exact ⟨rfl, rfl, rfl⟩
  · have hp : Try.f3.params.toList = [22, 23] := by kernel_rfl
    rw [hp] at has
    obtain ⟨a, b, rfl, ha, hb⟩ := tyVs_two has
    have u22 : Try.prog.underlying 22 = some (.slice 23) := by kernel_rfl
    have u23 : Try.prog.underlying 23 = some (.slice 3) := by kernel_rfl
    have u3 : Try.prog.underlying 3 = some (.int .i64) := by kernel_rfl
    have c3 : Try.prog.cellsOf 3 = 1 := by kernel_rfl
    have c23 : Try.prog.cellsOf 23 = 1 := by kernel_rfl
    obtain ⟨_, e1, h1⟩ := ty_II u22 u23 u3 c3 c23 (tyV_one (fun fs h => by rw [u22] at h; cases h) ha)
    obtain ⟨_, e2, h2, _⟩ := ty_I u23 u3 c3 (tyV_one (fun fs h => by rw [u23] at h; cases h) hb)
    cases e1; cases e2
    obtain ⟨g, hg⟩ := U22.exists_g
    exact ⟨[], U22.law_from g hg a b h1 h2⟩

theorem reachFrom_holds : Rows.ReachFromSaid :=
  OpenClaim.holds_of_wide 3 Try.f3 rfl rfl rfl rfl rfl rfl rfl ⟨rfl, rfl, rfl, rfl, rfl⟩ rfl rfl rfl rfl rfl (by kernel_rfl) Try.func3 (by kernel_rfl)
    (of_decide_eq_true (by kernel_rfl)) (by unfold Func.isWrapper; rw [if_neg (of_decide_eq_false (by kernel_rfl))]; exact ⟨rfl, rfl⟩)
    (fun os started H enc _ => reachFrom_lifted os started H enc)
end Go.Proofs.Yteicnmliccdgeaa
