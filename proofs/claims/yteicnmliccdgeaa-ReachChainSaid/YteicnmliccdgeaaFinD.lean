/-
  Whatever the input, the law ReachChain answers true and leaves its arguments as they were. There are no conditions.
-/
import Derived.Test.YteicnmliccdgeaaW
import Derived.Test.YteicnmliccdgeaaTab

namespace Go.Proofs.Yteicnmliccdgeaa
open Ax Go
set_option maxRecDepth 100000

theorem reachChain_lifted (os : Os) (started : os.Started) (H : Type) (enc : TypeId × Value → H) :
    ReturnsInHanded {} Try.checked os 6 .any (Rows.reachChainSpec.pre6 enc Try.prog Try.f6 Rows.reachChainRow.domain false) (Rows.reachChainSpec.post enc Try.prog Try.f6 false true false false) := by
  have hp : Try.f6.params.toList = [3, 3, 4] := by kernel_rfl
  refine law_lifted (tb := 4) hom started (by kernel_rfl) Try.func6 (by decide)
    (ChangeSpec.witness6 (enc := enc) (C := Try.checked) false ⟨#[], #[.int .i64 0, .int .i64 0, .bool false], []⟩ 8 (by kernel_rfl) (by kernel_rfl) (by kernel_rfl) (by kernel_rfl))
    (by kernel_rfl) rfl (by kernel_rfl) (by kernel_rfl) (fun ds hl => ?_) (fun l has => ?_)
  · rw [hp] at hl
    match ds, hl with
    | [d1, d2, d3], _ => exact ⟨rfl, rfl, rfl⟩
  · rw [hp] at has
    obtain ⟨a, b, c, rfl, ha, hb, hc⟩ := tyVs_three has
    obtain ⟨n, rfl, _⟩ := ty3 ha
    obtain ⟨k, rfl, _⟩ := ty3 hb
    obtain ⟨r, rfl⟩ := ty4 hc
    obtain ⟨g, hg⟩ := U22.exists_g
    exact ⟨[], U22.law_chain g hg n k r⟩

theorem reachChain_holds : Rows.ReachChainSaid :=
  OpenClaim.holds_of_wide 6 Try.f6 rfl rfl rfl rfl rfl rfl rfl ⟨rfl, rfl, rfl, rfl, rfl⟩ rfl rfl rfl rfl rfl (by kernel_rfl) Try.func6 (by kernel_rfl)
    (of_decide_eq_true (by kernel_rfl)) (by unfold Func.isWrapper; rw [if_neg (of_decide_eq_false (by kernel_rfl))]; exact ⟨rfl, rfl⟩)
    (fun os started H enc _ => reachChain_lifted os started H enc)
end Go.Proofs.Yteicnmliccdgeaa
