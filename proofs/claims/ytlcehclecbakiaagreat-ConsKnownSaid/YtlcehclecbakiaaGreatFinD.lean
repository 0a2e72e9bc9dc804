/-
  Whatever the input, the law ConsKnown answers true and leaves its arguments as they were. There are no conditions.
-/
import Derived.Test.YtlcehclecbakiaaGreatW
import Derived.Test.YtlcehclecbakiaaGreatTab

namespace Go.Proofs.YtlcehclecbakiaaGreat
open Ax Go
set_option maxRecDepth 100000

theorem consKnown_lifted (os : Os) (started : os.Started) (H : Type) (enc : TypeId × Value → H) :
    ReturnsInHanded {} Tryz.checked os 5 .any (Rows.consKnownSpec.pre6 enc Tryz.prog Tryz.f5 Rows.consKnownRow.domain false) (Rows.consKnownSpec.post enc Tryz.prog Tryz.f5 false true false false) := by
  have hp : Tryz.f5.params.toList = [3] := by kernel_rfl
  refine law_lifted (tb := 4) hom started (by kernel_rfl) Tryz.func5 (by decide)
    (ChangeSpec.witness6 (enc := enc) (C := Tryz.checked) false ⟨#[], #[.int .i64 0], []⟩ 8 (by kernel_rfl) (by kernel_rfl) (by kernel_rfl) (by kernel_rfl))
    (by kernel_rfl) rfl (by kernel_rfl) (by kernel_rfl) (fun ds hl => ?_) (fun l has => ?_)
  · rw [hp] at hl
    match ds, hl with
    | [d1], _ => exact ⟨rfl, rfl, rfl⟩
  · rw [hp] at has
    obtain ⟨a, rfl, ha⟩ := tyVs_one has
    obtain ⟨n, rfl, _⟩ := ty3 ha
    exact ⟨[], U2.law_known n⟩

theorem consKnown_holds : Rows.ConsKnownSaid :=
  OpenClaim.holds_of_wide 5 Tryz.f5 rfl rfl rfl rfl rfl rfl rfl ⟨rfl, rfl, rfl, rfl, rfl⟩ rfl rfl rfl rfl rfl (by kernel_rfl) Tryz.func5 (by kernel_rfl)
    (of_decide_eq_true (by kernel_rfl)) (by unfold Func.isWrapper; rw [if_neg (of_decide_eq_false (by kernel_rfl))]; exact ⟨rfl, rfl⟩)
    (fun os started H enc _ => consKnown_lifted os started H enc)
end Go.Proofs.YtlcehclecbakiaaGreat
