/-
  Whatever the input, the law HeadsRaw answers true and leaves its arguments as they were. There are no conditions.
-/
import Derived.Test.YthhebfamepmagaaR
import Derived.Test.YthhebfamepmagaaTab

namespace Go.Proofs.Ythhebfamepmagaa
open Ax Go
set_option maxRecDepth 100000

theorem headsRaw_lifted (os : Os) (started : os.Started) (H : Type) (enc : TypeId × Value → H) :
    ReturnsInHanded {} Try.checked os 4 .any (Rows.headsRawSpec.pre6 enc Try.prog Try.f4 Rows.headsRawRow.domain false) (Rows.headsRawSpec.post enc Try.prog Try.f4 false true false false) := by
  have hp : Try.f4.params.toList = [26] := by kernel_rfl
  refine law_lifted (tb := 4) hom started (by kernel_rfl) Try.func4 (by decide)
    (ChangeSpec.witness6 (enc := enc) (C := Try.checked) false ⟨#[], #[.agg #[.slice none 0 0, .slice none 0 0, .slice none 0 0]], []⟩ 8 (by kernel_rfl) (by kernel_rfl) (by kernel_rfl) (by kernel_rfl))
    (by kernel_rfl) rfl (by kernel_rfl) (by kernel_rfl) (fun ds hl => ?_) (fun l has => ?_)
  · rw [hp] at hl
    match ds, hl with
    | [d1], _ => exact ⟨rfl, rfl, rfl⟩
  · rw [hp] at has
    obtain ⟨a, rfl, ha⟩ := tyVs_one has
    obtain ⟨p, rfl, hp⟩ := ty26 ha
    exact ⟨[], U7.law_raw p hp⟩

theorem headsRaw_holds : Rows.HeadsRawSaid :=
  OpenClaim.holds_of_wide 4 Try.f4 rfl rfl rfl rfl rfl rfl rfl ⟨rfl, rfl, rfl, rfl, rfl⟩ rfl rfl rfl rfl rfl (by kernel_rfl) Try.func4 (by kernel_rfl)
    (of_decide_eq_true (by kernel_rfl)) (by unfold Func.isWrapper; rw [if_neg (of_decide_eq_false (by kernel_rfl))]; exact ⟨rfl, rfl⟩)
    (fun os started H enc _ => headsRaw_lifted os started H enc)
end Go.Proofs.Ythhebfamepmagaa
