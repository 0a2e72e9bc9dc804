/- Part of a proof. -/
import Derived.Test.YtffjnjnkhjmgfaaCode2
import Derived.Test.YtffjnjnkhjmgfaaA6
import Derived.Test.YtffjnjnkhjmgfaaRows
import Derived.Test.YtffjnjnkhjmgfaaW

namespace Go.Proofs.Ytffjnjnkhjmgfaa
open Ax
set_option maxRecDepth 100000
theorem tab : MTab Code12.S Try.prog := mtab_of (by kernel_rfl) (by kernel_rfl)
theorem hom : Home Code12.S Try.checked [3, 4, 9, 22, 23, 24, 25, 27, 30, 32, 35, 36, 38, 41, 42, 44, 46] := ⟨by kernel_rfl, tab, kids_rows (by kernel_rfl) (by kernel_rfl), slices_full_of Try.prog (by kernel_rfl), by kernel_rfl⟩
end Go.Proofs.Ytffjnjnkhjmgfaa

namespace Go.Proofs.Ytffjnjnkhjmgfaa
open Ax IrV
set_option maxRecDepth 100000
theorem tyFs_nil {P : Program} {xs : List AV} (h : TyFs P [] xs) : xs = [] := by cases h; rfl
theorem tyFs_cons {P : Program} {f : Field} {fs : List Field} {xs : List AV} (h : TyFs P (f :: fs) xs) : ∃ a b, xs = a ++ b ∧ Ty P f.type a ∧ TyFs P fs b := by
  cases h with
  | cons _ h1 h2 => exact ⟨_, _, rfl, h1, h2⟩
theorem ty_no {P : Program} {t e : TypeId} {v : AV} (h1 : P.underlying t = some (.slice e)) (h : Ty P t [v]) : notOwn v = true := by
  cases h with
  | nilSl hu => rfl
  | emp hu => rfl
  | lst hu rows hn hl h2 => rfl
  | bool hu => rfl
  | int hu => rfl
  | str hu => rfl
  | recd hu _ h2 => rw [h1] at hu; cases hu
theorem inR_of {n : Int} (h1 : IntKind.i64.min ≤ n) (h2 : n ≤ IntKind.i64.max) : inR n = true := by
  have a : (IntKind.i64.min : Int) = -9223372036854775808 := by decide
  have b : (IntKind.i64.max : Int) = 9223372036854775807 := by decide
  rw [a] at h1; rw [b] at h2
  simp [inR, h1, h2]
theorem u3 : Try.prog.underlying 3 = some (.int .i64) := by kernel_rfl
theorem u4 : Try.prog.underlying 4 = some .bool := by kernel_rfl
theorem u9 : Try.prog.underlying 9 = some .string := by kernel_rfl
theorem u22 : Try.prog.underlying 22 = some (.slice 44) := by kernel_rfl
theorem u23 : Try.prog.underlying 23 = some (.slice 35) := by kernel_rfl
theorem u24 : Try.prog.underlying 24 = some (.slice 38) := by kernel_rfl
theorem u25 : Try.prog.underlying 25 = some (.slice 46) := by kernel_rfl
theorem u30 : Try.prog.underlying 30 = some (.slice 3) := by kernel_rfl
theorem u36 : Try.prog.underlying 36 = some (.slice 32) := by kernel_rfl
theorem u42 : Try.prog.underlying 42 = some (.slice 41) := by kernel_rfl
theorem c3 : Try.prog.cellsOf 3 = 1 := by kernel_rfl
theorem c35 : Try.prog.cellsOf 35 = 3 := by kernel_rfl
theorem c38 : Try.prog.cellsOf 38 = 7 := by kernel_rfl
theorem c32 : Try.prog.cellsOf 32 = 6 := by kernel_rfl
theorem c41 : Try.prog.cellsOf 41 = 4 := by kernel_rfl
theorem c44 : Try.prog.cellsOf 44 = 2 := by kernel_rfl
theorem c46 : Try.prog.cellsOf 46 = 4 := by kernel_rfl

theorem ty_i {xs : List AV} (h : Ty Try.prog 3 xs) : ∃ n, xs = [.int .i64 n] ∧ inR n = true := by
  obtain ⟨n, rfl, a, b⟩ := ty_int u3 h
  exact ⟨n, rfl, inR_of a b⟩
theorem ty_rows {t e : TypeId} {sz : Nat} {p : List AV → Bool} {xs : List AV} (h1 : Try.prog.underlying t = some (.slice e)) (hc : Try.prog.cellsOf e = sz) (hr : ∀ r, Ty Try.prog e r → p r = true) (h : Ty Try.prog t xs) :
    ∃ v, xs = [v] ∧ isRows sz p v = true := by
  obtain ⟨v, rfl, a, b, _⟩ := ty_slice h1 h
  refine ⟨v, rfl, ?_⟩
  rw [hc] at a
  simp only [isRows, ty_no h1 h, a, Bool.true_and, Bool.and_self, List.all_eq_true]
  exact fun r hrr => hr r (b r hrr)
/-- The types of a record's fields. -/
def flds (P : Program) (t : TypeId) : Option (List TypeId) := match P.underlying t with
  | some (.struct fs) => some (fs.toList.map (·.type))
  | _ => none
def TyTs (P : Program) : List TypeId → List AV → Prop
  | [], xs => xs = []
  | t :: ts, xs => ∃ a b, xs = a ++ b ∧ Ty P t a ∧ TyTs P ts b
theorem tyTs_of {P : Program} : ∀ {fs : List Field} {xs : List AV}, TyFs P fs xs → TyTs P (fs.map (·.type)) xs
  | [], _, h => tyFs_nil h
  | _ :: _, _, h => by
    obtain ⟨a, b, e, h1, h2⟩ := tyFs_cons h
    exact ⟨a, b, e, h1, tyTs_of h2⟩
theorem ty_flds {P : Program} {t : TypeId} {ts : List TypeId} {xs : List AV} (h1 : flds P t = some ts) (h : Ty P t xs) : TyTs P ts xs := by
  unfold flds at h1
  split at h1
  · rename_i fs hu
    cases h1
    exact tyTs_of (ty_struct hu h)
  · cases h1
theorem tyV_flds {P : Program} {t : TypeId} {ts : List TypeId} {a : AV} (h1 : flds P t = some ts) (h : TyV P t a) : ∃ xs, a = .agg xs ∧ TyTs P ts xs := by
  rcases h with ⟨fs, xs, h2, h3, h4⟩ | ⟨h2, _⟩
  · exact ⟨xs, h3, ty_flds h1 h4⟩
  · unfold flds at h1
    split at h1
    · rename_i fs hu; exact absurd hu (h2 fs)
    · cases h1
theorem f35 : flds Try.prog 35 = some [3, 3, 3] := by kernel_rfl
theorem f41 : flds Try.prog 41 = some [9, 35] := by kernel_rfl
theorem f44 : flds Try.prog 44 = some [9, 42] := by kernel_rfl
theorem f46 : flds Try.prog 46 = some [3, 35] := by kernel_rfl
theorem f32 : flds Try.prog 32 = some [3, 3, 3, 3, 3, 30] := by kernel_rfl
theorem f38 : flds Try.prog 38 = some [3, 23, 4, 35, 36] := by kernel_rfl
theorem f27 : flds Try.prog 27 = some [22, 23, 24, 25, 3] := by kernel_rfl

theorem s35 {xs : List AV} (h : Ty Try.prog 35 xs) : ∃ a b c, xs = [.int .i64 a, .int .i64 b, .int .i64 c] ∧ inR a = true ∧ inR b = true ∧ inR c = true := by
  obtain ⟨_, _, rfl, h1, _, _, rfl, h2, _, _, rfl, h3, rfl⟩ := ty_flds f35 h
  obtain ⟨a, rfl, ha⟩ := ty_i h1
  obtain ⟨b, rfl, hb⟩ := ty_i h2
  obtain ⟨c, rfl, hc⟩ := ty_i h3
  exact ⟨a, b, c, rfl, ha, hb, hc⟩
theorem r35 (xs : List AV) (h : Ty Try.prog 35 xs) : tyRow xs = true := by
  obtain ⟨a, b, c, rfl, ha, hb, hc⟩ := s35 h
  simp [tyRow, ha, hb, hc]
theorem r41 (xs : List AV) (h : Ty Try.prog 41 xs) : fdRow xs = true := by
  obtain ⟨_, _, rfl, h1, _, _, rfl, h2, rfl⟩ := ty_flds f41 h
  obtain ⟨s, rfl, _⟩ := ty_str u9 h1
  obtain ⟨a, b, c, rfl, ha, hb, hc⟩ := s35 h2
  simp [fdRow, ha, hb, hc]
theorem r46 (xs : List AV) (h : Ty Try.prog 46 xs) : sdRow xs = true := by
  obtain ⟨_, _, rfl, h1, _, _, rfl, h2, rfl⟩ := ty_flds f46 h
  obtain ⟨s, rfl, hs⟩ := ty_i h1
  obtain ⟨a, b, c, rfl, ha, hb, hc⟩ := s35 h2
  simp [sdRow, hs, ha, hb, hc]
theorem s42 {xs : List AV} (h : Ty Try.prog 42 xs) : ∃ v, xs = [v] ∧ isFs v = true := ty_rows u42 c41 r41 h
theorem s23 {xs : List AV} (h : Ty Try.prog 23 xs) : ∃ v, xs = [v] ∧ isTs v = true := ty_rows u23 c35 r35 h
theorem s25 {xs : List AV} (h : Ty Try.prog 25 xs) : ∃ v, xs = [v] ∧ isSs v = true := ty_rows u25 c46 r46 h
theorem r44 (xs : List AV) (h : Ty Try.prog 44 xs) : rdRow xs = true := by
  obtain ⟨_, _, rfl, h1, _, _, rfl, h2, rfl⟩ := ty_flds f44 h
  obtain ⟨s, rfl, _⟩ := ty_str u9 h1
  obtain ⟨v, rfl, hv⟩ := s42 h2
  exact hv
theorem s22 {xs : List AV} (h : Ty Try.prog 22 xs) : ∃ v, xs = [v] ∧ isRs v = true := ty_rows u22 c44 r44 h
theorem s30 {xs : List AV} (h : Ty Try.prog 30 xs) : ∃ v, xs = [v] ∧ isI v = true ∧ notOwn v = true := by
  obtain ⟨v, rfl, hv, _⟩ := ty_I u30 u3 c3 h
  exact ⟨v, rfl, hv, ty_no u30 h⟩
theorem s32 {xs : List AV} (h : TyTs Try.prog [3, 3, 3, 3, 3, 30] xs) : ∃ i : ID, xs = i.cells ∧ idRow xs = true := by
  obtain ⟨_, _, rfl, h1, _, _, rfl, h2, _, _, rfl, h3, _, _, rfl, h4, _, _, rfl, h5, _, _, rfl, h6, rfl⟩ := h
  obtain ⟨a, rfl, ha⟩ := ty_i h1
  obtain ⟨b, rfl, hb⟩ := ty_i h2
  obtain ⟨c, rfl, hc⟩ := ty_i h3
  obtain ⟨d, rfl, hd⟩ := ty_i h4
  obtain ⟨e, rfl, he⟩ := ty_i h5
  obtain ⟨v, rfl, hv, hv2⟩ := s30 h6
  exact ⟨⟨a, b, c, d, e, v⟩, rfl, by simp [idRow, ha, hb, hc, hd, he, hv, hv2]⟩
theorem r32 (xs : List AV) (h : Ty Try.prog 32 xs) : idRow xs = true := by
  obtain ⟨_, _, h2⟩ := s32 (ty_flds f32 h)
  exact h2
theorem s36 {xs : List AV} (h : Ty Try.prog 36 xs) : ∃ v, xs = [v] ∧ isNs v = true := ty_rows u36 c32 r32 h
theorem r38 (xs : List AV) (h : Ty Try.prog 38 xs) : cdRow xs = true := by
  obtain ⟨_, _, rfl, h1, _, _, rfl, h2, _, _, rfl, h3, _, _, rfl, h4, _, _, rfl, h5, rfl⟩ := ty_flds f38 h
  obtain ⟨a, rfl, ha⟩ := ty_i h1
  obtain ⟨v, rfl, hv⟩ := s23 h2
  obtain ⟨b, rfl⟩ := ty_bool u4 h3
  obtain ⟨p, q, r, rfl, hp, hq, hr⟩ := s35 h4
  obtain ⟨w, rfl, hw⟩ := s36 h5
  simp [cdRow, ha, hv, hp, hq, hr, hw]
theorem s24 {xs : List AV} (h : Ty Try.prog 24 xs) : ∃ v, xs = [v] ∧ isCs v = true := ty_rows u24 c38 r38 h

/-- A program in codes. -/
theorem ty27 {a : AV} (h : TyV Try.prog 27 a) : ∃ x : XD, a = .agg x.cells ∧ x.ok := by
  obtain ⟨xs, rfl, _, _, rfl, h1, _, _, rfl, h2, _, _, rfl, h3, _, _, rfl, h4, _, _, rfl, h5, rfl⟩ := tyV_flds f27 h
  obtain ⟨v1, rfl, k1⟩ := s22 h1
  obtain ⟨v2, rfl, k2⟩ := s23 h2
  obtain ⟨v3, rfl, k3⟩ := s24 h3
  obtain ⟨v4, rfl, k4⟩ := s25 h4
  obtain ⟨m, rfl, _⟩ := ty_i h5
  exact ⟨⟨v1, v2, v3, v4, m⟩, rfl, ⟨k1, k2, k3, k4⟩⟩
/-- An instruction. -/
theorem ty32 {a : AV} (h : TyV Try.prog 32 a) : ∃ i : ID, a = .agg i.cells ∧ isI i.args = true ∧ notOwn i.args = true := by
  obtain ⟨xs, rfl, h1⟩ := tyV_flds f32 h
  obtain ⟨i, rfl, h2⟩ := s32 h1
  simp only [idRow, ID.cells, Bool.and_eq_true] at h2
  exact ⟨i, rfl, h2.2, h2.1.2⟩
theorem ty3 {a : AV} (h : TyV Try.prog 3 a) : ∃ n, a = .int .i64 n ∧ inR n = true := by
  obtain ⟨n, e, hn⟩ := ty_i (tyV_one (fun fs h => by rw [u3] at h; cases h) h)
  cases e
  exact ⟨n, rfl, hn⟩
end Go.Proofs.Ytffjnjnkhjmgfaa
