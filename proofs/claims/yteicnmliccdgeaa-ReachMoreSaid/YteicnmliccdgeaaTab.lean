/- Part of a proof. -/
import Derived.Test.YteicnmliccdgeaaCode
import Derived.Test.YteicnmliccdgeaaA6
import Derived.Test.YteicnmliccdgeaaRows

namespace Go.Proofs.Yteicnmliccdgeaa
open Ax
set_option maxRecDepth 100000
theorem tab : MTab Code22.S Try.prog := mtab_of (by kernel_rfl) (by kernel_rfl)
theorem hom : Home Code22.S Try.checked [3, 4, 22, 23] := ⟨by kernel_rfl, tab, kids_rows (by kernel_rfl) (by kernel_rfl), slices_full_of Try.prog (by kernel_rfl), by kernel_rfl⟩
theorem u22 : Try.prog.underlying 22 = some (.slice 23) := by kernel_rfl
theorem u23 : Try.prog.underlying 23 = some (.slice 3) := by kernel_rfl
theorem u3 : Try.prog.underlying 3 = some (.int .i64) := by kernel_rfl
theorem u4 : Try.prog.underlying 4 = some .bool := by kernel_rfl
theorem c3 : Try.prog.cellsOf 3 = 1 := by kernel_rfl
theorem c23 : Try.prog.cellsOf 23 = 1 := by kernel_rfl
theorem ty22 {a : AV} (h : TyV Try.prog 22 a) : isII a = true := by
  obtain ⟨_, e, h1⟩ := ty_II u22 u23 u3 c3 c23 (tyV_one (fun fs h => by rw [u22] at h; cases h) h)
  cases e; exact h1
theorem ty23 {a : AV} (h : TyV Try.prog 23 a) : isI a = true := by
  obtain ⟨_, e, h1, _⟩ := ty_I u23 u3 c3 (tyV_one (fun fs h => by rw [u23] at h; cases h) h)
  cases e; exact h1
theorem ty3 {a : AV} (h : TyV Try.prog 3 a) : ∃ n, a = .int .i64 n ∧ -9223372036854775808 ≤ n ∧ n ≤ 9223372036854775807 := by
  obtain ⟨n, e, h1, h2⟩ := ty_int u3 (tyV_one (fun fs h => by rw [u3] at h; cases h) h)
  cases e; exact ⟨n, rfl, h1, h2⟩
theorem ty4 {a : AV} (h : TyV Try.prog 4 a) : ∃ b, a = .bool b := by
  obtain ⟨n, e⟩ := ty_bool u4 (tyV_one (fun fs h => by rw [u4] at h; cases h) h)
  cases e; exact ⟨n, rfl⟩
end Go.Proofs.Yteicnmliccdgeaa
