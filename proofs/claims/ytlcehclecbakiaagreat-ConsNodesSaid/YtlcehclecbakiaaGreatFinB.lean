/-
  Whatever the input, the law ConsNodes answers true and leaves its arguments as they were. There are no conditions.
-/
import Derived.Test.YtlcehclecbakiaaGreatWc
import Derived.Test.YtlcehclecbakiaaGreatTab

namespace Go.Proofs.YtlcehclecbakiaaGreat
open Ax Go
set_option maxRecDepth 100000

theorem consNodes_lifted (os : Os) (started : os.Started) (H : Type) (enc : TypeId × Value → H) :
    ReturnsInHanded {} Tryz.checked os 6 .any (Rows.consNodesSpec.pre6 enc Tryz.prog Tryz.f6 Rows.consNodesRow.domain false) (Rows.consNodesSpec.post enc Tryz.prog Tryz.f6 false true false false) := by
  have hp : Tryz.f6.params.toList = [27, 3, 3] := by kernel_rfl
  refine law_lifted (tb := 4) hom started (by kernel_rfl) Tryz.func6 (by decide)
    (ChangeSpec.witness6 (enc := enc) (C := Tryz.checked) false ⟨#[], #[.agg #[.slice none 0 0, .slice none 0 0, .slice none 0 0, .slice none 0 0, .int .i64 0], .int .i64 0, .int .i64 0], []⟩ 8 (by kernel_rfl) (by kernel_rfl) (by kernel_rfl) (by kernel_rfl))
    (by kernel_rfl) rfl (by kernel_rfl) (by kernel_rfl) (fun ds hl => ?_) (fun l has => ?_)
  · rw [hp] at hl
    match ds, hl with
    | [d1, d2, d3], _ => exact ⟨rfl, rfl, rfl⟩
  · rw [hp] at has
    obtain ⟨a, b, c, rfl, ha, hb, hc⟩ := tyVs_three has
    obtain ⟨x, rfl, hx⟩ := ty27 ha
    obtain ⟨f, rfl, _⟩ := ty3 hb
    obtain ⟨v, rfl, _⟩ := ty3 hc
    exact ⟨[], U12.law_nodes x f v hx⟩

theorem consNodes_holds : Rows.ConsNodesSaid :=
  OpenClaim.holds_of_wide 6 Tryz.f6 rfl rfl rfl rfl rfl rfl rfl ⟨rfl, rfl, rfl, rfl, rfl⟩ rfl rfl rfl rfl rfl (by kernel_rfl) Tryz.func6 (by kernel_rfl)
    (of_decide_eq_true (by kernel_rfl)) (by unfold Func.isWrapper; rw [if_neg (of_decide_eq_false (by kernel_rfl))]; exact ⟨rfl, rfl⟩)
    (fun os started H enc _ => consNodes_lifted os started H enc)
end Go.Proofs.YtlcehclecbakiaaGreat
