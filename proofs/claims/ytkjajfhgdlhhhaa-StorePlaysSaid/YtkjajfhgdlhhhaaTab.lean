/- Part of a proof. -/
import Derived.Test.YtkjajfhgdlhhhaaCode1
import Derived.Test.YtkjajfhgdlhhhaaA6
import Derived.Test.YtkjajfhgdlhhhaaRows
import Derived.Test.YtkjajfhgdlhhhaaW

namespace Go.Proofs.Ytkjajfhgdlhhhaa
open Ax
set_option maxRecDepth 100000
theorem tab : MTab Code10.S Try.prog := mtab_of (by kernel_rfl) (by kernel_rfl)
theorem hom : Home Code10.S Try.checked [3, 4, 22, 30, 39] := ⟨by kernel_rfl, tab, kids_rows (by kernel_rfl) (by kernel_rfl), slices_full_of Try.prog (by kernel_rfl), by kernel_rfl⟩
end Go.Proofs.Ytkjajfhgdlhhhaa

namespace Go.Proofs.Ytkjajfhgdlhhhaa
open Ax V7
set_option maxRecDepth 100000
theorem tyFs_nil {P : Program} {xs : List AV} (h : TyFs P [] xs) : xs = [] := by cases h; rfl
theorem tyFs_cons {P : Program} {f : Field} {fs : List Field} {xs : List AV} (h : TyFs P (f :: fs) xs) : ∃ a b, xs = a ++ b ∧ Ty P f.type a ∧ TyFs P fs b := by
  cases h with
  | cons _ h1 h2 => exact ⟨_, _, rfl, h1, h2⟩
theorem ty_no {P : Program} {t e : TypeId} {v : AV} (h1 : P.underlying t = some (.slice e)) (h : Ty P t [v]) : notOwn v = true := by
  cases h with
  | nilSl hu => rfl
  | emp hu => rfl
  | lst hu rows hn hl h2 => rfl
  | bool hu => rfl
  | int hu => rfl
  | str hu => rfl
  | recd hu _ h2 => rw [h1] at hu; cases hu
theorem inR_of {n : Int} (h1 : IntKind.i64.min ≤ n) (h2 : n ≤ IntKind.i64.max) : inR n = true := by
  have a : (IntKind.i64.min : Int) = -9223372036854775808 := by decide
  have b : (IntKind.i64.max : Int) = 9223372036854775807 := by decide
  rw [a] at h1; rw [b] at h2
  simp [inR, h1, h2]
theorem u3 : Try.prog.underlying 3 = some (.int .i64) := by kernel_rfl
theorem ty_i {xs : List AV} (h : Ty Try.prog 3 xs) : ∃ n, xs = [.int .i64 n] ∧ inR n = true := by
  obtain ⟨n, rfl, a, b⟩ := ty_int u3 h
  exact ⟨n, rfl, inR_of a b⟩
theorem ty3 {a : AV} (h : TyV Try.prog 3 a) : ∃ n, a = .int .i64 n ∧ inR n = true := by
  obtain ⟨n, e, hn⟩ := ty_i (tyV_one (fun fs h => by rw [u3] at h; cases h) h)
  cases e
  exact ⟨n, rfl, hn⟩
theorem u39 : Try.prog.underlying 39 = some (.slice 3) := by kernel_rfl
theorem c3 : Try.prog.cellsOf 3 = 1 := by kernel_rfl
theorem ty39 {a : AV} (h : TyV Try.prog 39 a) : isI a = true := by
  obtain ⟨v, e, hv, _⟩ := ty_I u39 u3 c3 (tyV_one (fun fs h => by rw [u39] at h; cases h) h)
  cases e
  exact hv
end Go.Proofs.Ytkjajfhgdlhhhaa
