/- Part of a proof. -/
import Derived.Test.YtfhfpnnmcdgdkaaCode2
import Derived.Test.YtfhfpnnmcdgdkaaA6
import Derived.Test.YtfhfpnnmcdgdkaaRows

namespace Go.Proofs.Ytfhfpnnmcdgdkaa
open Ax
set_option maxRecDepth 100000
theorem tab : MTab Code8z.S Try.prog := mtab_of (by kernel_rfl) (by kernel_rfl)
theorem hom : Home Code8z.S Try.checked [3, 4, 9] := ⟨by kernel_rfl, tab, kids_rows (by kernel_rfl) (by kernel_rfl), slices_full_of Try.prog (by kernel_rfl), by kernel_rfl⟩
end Go.Proofs.Ytfhfpnnmcdgdkaa

namespace Go.Proofs.Ytfhfpnnmcdgdkaa
open Ax
set_option maxRecDepth 100000
theorem u3 : Try.prog.underlying 3 = some (.int .i64) := by kernel_rfl
theorem u9 : Try.prog.underlying 9 = some .string := by kernel_rfl
theorem ty3 {a : AV} (h : TyV Try.prog 3 a) : ∃ n, a = .int .i64 n := by
  obtain ⟨n, e, _, _⟩ := ty_int u3 (tyV_one (fun fs h => by rw [u3] at h; cases h) h)
  cases e
  exact ⟨n, rfl⟩
theorem ty9 {a : AV} (h : TyV Try.prog 9 a) : ∃ s, a = .str s := by
  obtain ⟨s, e, _⟩ := ty_str u9 (tyV_one (fun fs h => by rw [u9] at h; cases h) h)
  cases e
  exact ⟨s, rfl⟩
end Go.Proofs.Ytfhfpnnmcdgdkaa
