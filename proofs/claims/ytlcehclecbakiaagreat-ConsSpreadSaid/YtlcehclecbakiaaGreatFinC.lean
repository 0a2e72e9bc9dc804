/-
  Whatever the input, the law ConsSpread answers true and leaves its arguments as they were. There are no conditions.
-/
import Derived.Test.YtlcehclecbakiaaGreatWd
import Derived.Test.YtlcehclecbakiaaGreatTab

namespace Go.Proofs.YtlcehclecbakiaaGreat
open Ax Go
set_option maxRecDepth 100000

theorem consSpread_lifted (os : Os) (started : os.Started) (H : Type) (enc : TypeId × Value → H) :
    ReturnsInHanded {} Tryz.checked os 7 .any (Rows.consSpreadSpec.pre6 enc Tryz.prog Tryz.f7 Rows.consSpreadRow.domain false) (Rows.consSpreadSpec.post enc Tryz.prog Tryz.f7 false true false false) := by
  have hp : Tryz.f7.params.toList = [27] := by kernel_rfl
  refine law_lifted (tb := 4) hom started (by kernel_rfl) Tryz.func7 (by decide)
    (ChangeSpec.witness6 (enc := enc) (C := Tryz.checked) false ⟨#[], #[.agg #[.slice none 0 0, .slice none 0 0, .slice none 0 0, .slice none 0 0, .int .i64 0]], []⟩ 8 (by kernel_rfl) (by kernel_rfl) (by kernel_rfl) (by kernel_rfl))
    (by kernel_rfl) rfl (by kernel_rfl) (by kernel_rfl) (fun ds hl => ?_) (fun l has => ?_)
  · rw [hp] at hl
    match ds, hl with
    | [d1], _ => exact ⟨rfl, rfl, rfl⟩
  · rw [hp] at has
    obtain ⟨a, rfl, ha⟩ := tyVs_one has
    obtain ⟨x, rfl, hx⟩ := ty27 ha
    exact ⟨[], U12.law_spread x hx⟩

theorem consSpread_holds : Rows.ConsSpreadSaid :=
  OpenClaim.holds_of_wide 7 Tryz.f7 rfl rfl rfl rfl rfl rfl rfl ⟨rfl, rfl, rfl, rfl, rfl⟩ rfl rfl rfl rfl rfl (by kernel_rfl) Tryz.func7 (by kernel_rfl)
    (of_decide_eq_true (by kernel_rfl)) (by unfold Func.isWrapper; rw [if_neg (of_decide_eq_false (by kernel_rfl))]; exact ⟨rfl, rfl⟩)
    (fun os started H enc _ => consSpread_lifted os started H enc)
end Go.Proofs.YtlcehclecbakiaaGreat
