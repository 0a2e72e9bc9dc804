/-
  Whatever the input, the law HeadsTypes answers true and leaves its arguments as they were. There are no conditions.
-/
import Derived.Test.YthhebfamepmagaaW
import Derived.Test.YthhebfamepmagaaTab

namespace Go.Proofs.Ythhebfamepmagaa
open Ax Go
set_option maxRecDepth 100000

theorem headsTypes_lifted (os : Os) (started : os.Started) (H : Type) (enc : TypeId × Value → H) :
    ReturnsInHanded {} Try.checked os 5 .any (Rows.headsTypesSpec.pre6 enc Try.prog Try.f5 Rows.headsTypesRow.domain false) (Rows.headsTypesSpec.post enc Try.prog Try.f5 false true false false) := by
  have hp : Try.f5.params.toList = [43, 45, 47] := by kernel_rfl
  refine law_lifted (tb := 4) hom started (by kernel_rfl) Try.func5 (by decide)
    (ChangeSpec.witness6 (enc := enc) (C := Try.checked) false ⟨#[], #[.slice none 0 0, .agg #[.string ⟨#[]⟩, .int .i64 0], .agg #[.int .i64 0, .int .i64 0, .int .i64 0]], []⟩ 8 (by kernel_rfl) (by kernel_rfl) (by kernel_rfl) (by kernel_rfl))
    (by kernel_rfl) rfl (by kernel_rfl) (by kernel_rfl) (fun ds hl => ?_) (fun l has => ?_)
  · rw [hp] at hl
    match ds, hl with
    | [d1, d2, d3], _ => exact ⟨rfl, rfl, rfl⟩
  · rw [hp] at has
    obtain ⟨a, b, c, rfl, ha, hb, hc⟩ := tyVs_three has
    have hl := ty43 ha
    obtain ⟨s, d, rfl, _⟩ := ty45 hb
    obtain ⟨t, rfl⟩ := ty47 hc
    exact ⟨[], U7.law_types a s d t hl⟩

theorem headsTypes_holds : Rows.HeadsTypesSaid :=
  OpenClaim.holds_of_wide 5 Try.f5 rfl rfl rfl rfl rfl rfl rfl ⟨rfl, rfl, rfl, rfl, rfl⟩ rfl rfl rfl rfl rfl (by kernel_rfl) Try.func5 (by kernel_rfl)
    (of_decide_eq_true (by kernel_rfl)) (by unfold Func.isWrapper; rw [if_neg (of_decide_eq_false (by kernel_rfl))]; exact ⟨rfl, rfl⟩)
    (fun os started H enc _ => headsTypes_lifted os started H enc)
end Go.Proofs.Ythhebfamepmagaa
