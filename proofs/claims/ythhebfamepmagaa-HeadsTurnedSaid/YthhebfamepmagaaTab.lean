/- Part of a proof. -/
import Derived.Test.YthhebfamepmagaaCode2
import Derived.Test.YthhebfamepmagaaA6
import Derived.Test.YthhebfamepmagaaRows
import Derived.Test.YthhebfamepmagaaV

namespace Go.Proofs.Ythhebfamepmagaa
open Ax
set_option maxRecDepth 100000
theorem tab : MTab Code7.S Try.prog := mtab_of (by kernel_rfl) (by kernel_rfl)
theorem hom : Home Code7.S Try.checked [3, 4, 9, 22, 23, 24, 26, 43, 45, 47, 53, 76, 79, 81, 114, 116, 120] := ⟨by kernel_rfl, tab, kids_rows (by kernel_rfl) (by kernel_rfl), slices_full_of Try.prog (by kernel_rfl), by kernel_rfl⟩
end Go.Proofs.Ythhebfamepmagaa

namespace Go.Proofs.Ythhebfamepmagaa
open Ax V7
set_option maxRecDepth 100000
theorem tyFs_nil {P : Program} {xs : List AV} (h : TyFs P [] xs) : xs = [] := by cases h; rfl
theorem tyFs_cons {P : Program} {f : Field} {fs : List Field} {xs : List AV} (h : TyFs P (f :: fs) xs) : ∃ a b, xs = a ++ b ∧ Ty P f.type a ∧ TyFs P fs b := by
  cases h with
  | cons _ h1 h2 => exact ⟨_, _, rfl, h1, h2⟩
theorem ty_no {P : Program} {t e : TypeId} {v : AV} (h1 : P.underlying t = some (.slice e)) (h : Ty P t [v]) : notOwn v = true := by
  cases h with
  | nilSl hu => rfl
  | emp hu => rfl
  | lst hu rows hn hl h2 => rfl
  | bool hu => rfl
  | int hu => rfl
  | str hu => rfl
  | recd hu _ h2 => rw [h1] at hu; cases hu
theorem inR_of {n : Int} (h1 : IntKind.i64.min ≤ n) (h2 : n ≤ IntKind.i64.max) : inR n = true := by
  have a : (IntKind.i64.min : Int) = -9223372036854775808 := by decide
  have b : (IntKind.i64.max : Int) = 9223372036854775807 := by decide
  rw [a] at h1; rw [b] at h2
  simp [inR, h1, h2]
theorem u3 : Try.prog.underlying 3 = some (.int .i64) := by kernel_rfl
theorem u4 : Try.prog.underlying 4 = some .bool := by kernel_rfl
theorem u9 : Try.prog.underlying 9 = some .string := by kernel_rfl
theorem u22 : Try.prog.underlying 22 = some (.slice 53) := by kernel_rfl
theorem u23 : Try.prog.underlying 23 = some (.slice 76) := by kernel_rfl
theorem u24 : Try.prog.underlying 24 = some (.slice 81) := by kernel_rfl
theorem u43 : Try.prog.underlying 43 = some (.slice 9) := by kernel_rfl
theorem u79 : Try.prog.underlying 79 = some (.slice 116) := by kernel_rfl
theorem c9 : Try.prog.cellsOf 9 = 1 := by kernel_rfl
theorem c53 : Try.prog.cellsOf 53 = 3 := by kernel_rfl
theorem c76 : Try.prog.cellsOf 76 = 4 := by kernel_rfl
theorem c81 : Try.prog.cellsOf 81 = 7 := by kernel_rfl

theorem ty_i {xs : List AV} (h : Ty Try.prog 3 xs) : ∃ n, xs = [.int .i64 n] ∧ inR n = true := by
  obtain ⟨n, rfl, a, b⟩ := ty_int u3 h
  exact ⟨n, rfl, inR_of a b⟩
theorem ty_rows {t e : TypeId} {sz : Nat} {p : List AV → Bool} {xs : List AV} (h1 : Try.prog.underlying t = some (.slice e)) (hc : Try.prog.cellsOf e = sz) (hr : ∀ r, Ty Try.prog e r → p r = true) (h : Ty Try.prog t xs) :
    ∃ v, xs = [v] ∧ isRows sz p v = true := by
  obtain ⟨v, rfl, a, b, _⟩ := ty_slice h1 h
  refine ⟨v, rfl, ?_⟩
  rw [hc] at a
  simp only [isRows, ty_no h1 h, a, Bool.true_and, Bool.and_self, List.all_eq_true]
  exact fun r hrr => hr r (b r hrr)
/-- The types of a record's fields. -/
def flds (P : Program) (t : TypeId) : Option (List TypeId) := match P.underlying t with
  | some (.struct fs) => some (fs.toList.map (·.type))
  | _ => none
def TyTs (P : Program) : List TypeId → List AV → Prop
  | [], xs => xs = []
  | t :: ts, xs => ∃ a b, xs = a ++ b ∧ Ty P t a ∧ TyTs P ts b
theorem tyTs_of {P : Program} : ∀ {fs : List Field} {xs : List AV}, TyFs P fs xs → TyTs P (fs.map (·.type)) xs
  | [], _, h => tyFs_nil h
  | _ :: _, _, h => by
    obtain ⟨a, b, e, h1, h2⟩ := tyFs_cons h
    exact ⟨a, b, e, h1, tyTs_of h2⟩
theorem ty_flds {P : Program} {t : TypeId} {ts : List TypeId} {xs : List AV} (h1 : flds P t = some ts) (h : Ty P t xs) : TyTs P ts xs := by
  unfold flds at h1
  split at h1
  · rename_i fs hu
    cases h1
    exact tyTs_of (ty_struct hu h)
  · cases h1
theorem tyV_flds {P : Program} {t : TypeId} {ts : List TypeId} {a : AV} (h1 : flds P t = some ts) (h : TyV P t a) : ∃ xs, a = .agg xs ∧ TyTs P ts xs := by
  rcases h with ⟨fs, xs, h2, h3, h4⟩ | ⟨h2, _⟩
  · exact ⟨xs, h3, ty_flds h1 h4⟩
  · unfold flds at h1
    split at h1
    · rename_i fs hu; exact absurd hu (h2 fs)
    · cases h1
theorem f45 : flds Try.prog 45 = some [9, 3] := by kernel_rfl
theorem f47 : flds Try.prog 47 = some [3, 3, 3] := by kernel_rfl
theorem f76 : flds Try.prog 76 = some [9, 45, 3] := by kernel_rfl
theorem f53 : flds Try.prog 53 = some [9, 23, 3] := by kernel_rfl
theorem f81 : flds Try.prog 81 = some [9, 23, 4, 45, 79, 3] := by kernel_rfl
theorem f26 : flds Try.prog 26 = some [22, 23, 24] := by kernel_rfl

theorem s45 {xs : List AV} (h : Ty Try.prog 45 xs) : ∃ s d, xs = [.str s, .int .i64 d] ∧ inR d = true := by
  obtain ⟨_, _, rfl, h1, _, _, rfl, h2, rfl⟩ := ty_flds f45 h
  obtain ⟨s, rfl, _⟩ := ty_str u9 h1
  obtain ⟨d, rfl, hd⟩ := ty_i h2
  exact ⟨s, d, rfl, hd⟩
theorem r9 (xs : List AV) (h : Ty Try.prog 9 xs) : stRow xs = true := by
  obtain ⟨s, rfl, _⟩ := ty_str u9 h
  rfl
theorem s43 {xs : List AV} (h : Ty Try.prog 43 xs) : ∃ v, xs = [v] ∧ isSts v = true := ty_rows u43 c9 r9 h
theorem r76 (xs : List AV) (h : Ty Try.prog 76 xs) : pdRow xs = true := by
  obtain ⟨_, _, rfl, h1, _, _, rfl, h2, _, _, rfl, h3, rfl⟩ := ty_flds f76 h
  obtain ⟨s, rfl, _⟩ := ty_str u9 h1
  obtain ⟨o, d, rfl, hd⟩ := s45 h2
  obtain ⟨a, rfl, ha⟩ := ty_i h3
  simp [pdRow, hd, ha]
theorem s23 {xs : List AV} (h : Ty Try.prog 23 xs) : ∃ v, xs = [v] ∧ isPs v = true := ty_rows u23 c76 r76 h
theorem r53 (xs : List AV) (h : Ty Try.prog 53 xs) : crRow xs = true := by
  obtain ⟨_, _, rfl, h1, _, _, rfl, h2, _, _, rfl, h3, rfl⟩ := ty_flds f53 h
  obtain ⟨s, rfl, _⟩ := ty_str u9 h1
  obtain ⟨v, rfl, hv⟩ := s23 h2
  obtain ⟨a, rfl, ha⟩ := ty_i h3
  simp [crRow, hv, ha]
theorem s22 {xs : List AV} (h : Ty Try.prog 22 xs) : ∃ v, xs = [v] ∧ isCRs v = true := ty_rows u22 c53 r53 h
theorem s79 {xs : List AV} (h : Ty Try.prog 79 xs) : ∃ v, xs = [v] ∧ notOwn v = true ∧ isSl v = true := by
  obtain ⟨v, rfl, a, b, _⟩ := ty_slice u79 h
  exact ⟨v, rfl, ty_no u79 h, isSl_sz a⟩
theorem r81 (xs : List AV) (h : Ty Try.prog 81 xs) : fnRow xs = true := by
  obtain ⟨_, _, rfl, h1, _, _, rfl, h2, _, _, rfl, h3, _, _, rfl, h4, _, _, rfl, h5, _, _, rfl, h6, rfl⟩ := ty_flds f81 h
  obtain ⟨s, rfl, _⟩ := ty_str u9 h1
  obtain ⟨v, rfl, hv⟩ := s23 h2
  obtain ⟨b, rfl⟩ := ty_bool u4 h3
  obtain ⟨o, d, rfl, hd⟩ := s45 h4
  obtain ⟨w, rfl, hw, hw2⟩ := s79 h5
  obtain ⟨a, rfl, ha⟩ := ty_i h6
  simp [fnRow, hv, hd, hw, hw2, ha]
theorem s24 {xs : List AV} (h : Ty Try.prog 24 xs) : ∃ v, xs = [v] ∧ isFNs v = true := ty_rows u24 c81 r81 h

/-- A program. -/
theorem ty26 {a : AV} (h : TyV Try.prog 26 a) : ∃ p : GD, a = .agg p.cells ∧ p.ok := by
  obtain ⟨xs, rfl, _, _, rfl, h1, _, _, rfl, h2, _, _, rfl, h3, rfl⟩ := tyV_flds f26 h
  obtain ⟨v1, rfl, k1⟩ := s22 h1
  obtain ⟨v2, rfl, k2⟩ := s23 h2
  obtain ⟨v3, rfl, k3⟩ := s24 h3
  exact ⟨⟨v1, v2, v3⟩, rfl, ⟨k1, k2, k3⟩⟩
theorem ty3 {a : AV} (h : TyV Try.prog 3 a) : ∃ n, a = .int .i64 n ∧ inR n = true := by
  obtain ⟨n, e, hn⟩ := ty_i (tyV_one (fun fs h => by rw [u3] at h; cases h) h)
  cases e
  exact ⟨n, rfl, hn⟩
theorem ty4 {a : AV} (h : TyV Try.prog 4 a) : ∃ b, a = .bool b := by
  obtain ⟨b, e⟩ := ty_bool u4 (tyV_one (fun fs h => by rw [u4] at h; cases h) h)
  cases e
  exact ⟨b, rfl⟩
theorem ty43 {a : AV} (h : TyV Try.prog 43 a) : isSts a = true := by
  obtain ⟨v, e, hv⟩ := s43 (tyV_one (fun fs h => by rw [u43] at h; cases h) h)
  cases e
  exact hv
theorem ty45 {a : AV} (h : TyV Try.prog 45 a) : ∃ s d, a = .agg [.str s, .int .i64 d] ∧ inR d = true := by
  obtain ⟨xs, rfl, _, _, rfl, h1, _, _, rfl, h2, rfl⟩ := tyV_flds f45 h
  obtain ⟨s, rfl, _⟩ := ty_str u9 h1
  obtain ⟨d, rfl, hd⟩ := ty_i h2
  exact ⟨s, d, rfl, hd⟩
theorem ty47 {a : AV} (h : TyV Try.prog 47 a) : ∃ t : T3, a = .agg t.cells := by
  obtain ⟨xs, rfl, _, _, rfl, h1, _, _, rfl, h2, _, _, rfl, h3, rfl⟩ := tyV_flds f47 h
  obtain ⟨a, rfl, _⟩ := ty_i h1
  obtain ⟨b, rfl, _⟩ := ty_i h2
  obtain ⟨c, rfl, _⟩ := ty_i h3
  exact ⟨⟨a, b, c⟩, rfl⟩
theorem ty9 {a : AV} (h : TyV Try.prog 9 a) : ∃ s, a = .str s := by
  obtain ⟨s, e, _⟩ := ty_str u9 (tyV_one (fun fs h => by rw [u9] at h; cases h) h)
  cases e
  exact ⟨s, rfl⟩
end Go.Proofs.Ythhebfamepmagaa
