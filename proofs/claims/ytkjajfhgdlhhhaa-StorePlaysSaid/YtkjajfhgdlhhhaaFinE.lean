/-
  Whatever the input, the law StorePlays answers true and leaves its arguments as they were. There are no conditions.
-/
import Derived.Test.YtkjajfhgdlhhhaaG
import Derived.Test.YtkjajfhgdlhhhaaTab

namespace Go.Proofs.Ytkjajfhgdlhhhaa
open Ax Go
set_option maxRecDepth 100000

/-- The types of a record's fields. -/
def flds (P : Program) (t : TypeId) : Option (List TypeId) := match P.underlying t with
  | some (.struct fs) => some (fs.toList.map (·.type))
  | _ => none
def TyTs (P : Program) : List TypeId → List AV → Prop
  | [], xs => xs = []
  | t :: ts, xs => ∃ a b, xs = a ++ b ∧ Ty P t a ∧ TyTs P ts b
theorem tyTs_of {P : Program} : ∀ {fs : List Field} {xs : List AV}, TyFs P fs xs → TyTs P (fs.map (·.type)) xs
  | [], _, h => tyFs_nil h
  | _ :: _, _, h => by
    obtain ⟨a, b, e, h1, h2⟩ := tyFs_cons h
    exact ⟨a, b, e, h1, tyTs_of h2⟩
theorem ty_flds {P : Program} {t : TypeId} {ts : List TypeId} {xs : List AV} (h1 : flds P t = some ts) (h : Ty P t xs) : TyTs P ts xs := by
  unfold flds at h1
  split at h1
  · rename_i fs hu
    cases h1
    exact tyTs_of (ty_struct hu h)
  · cases h1
theorem u22 : Try.prog.underlying 22 = some (.slice 30) := by kernel_rfl
theorem c30 : Try.prog.cellsOf 30 = 4 := by kernel_rfl
theorem f30 : flds Try.prog 30 = some [3, 3, 3, 3] := by kernel_rfl
theorem r30 (xs : List AV) (h : Ty Try.prog 30 xs) : U10.acRow xs = true := by
  obtain ⟨_, _, rfl, h1, _, _, rfl, h2, _, _, rfl, h3, _, _, rfl, h4, rfl⟩ := ty_flds f30 h
  obtain ⟨a, rfl, _⟩ := ty_i h1
  obtain ⟨b, rfl, _⟩ := ty_i h2
  obtain ⟨c, rfl, _⟩ := ty_i h3
  obtain ⟨d, rfl, _⟩ := ty_i h4
  rfl
theorem ty22 {a : AV} (h : TyV Try.prog 22 a) : U10.isACs a = true := by
  have h' := tyV_one (fun fs h => by rw [u22] at h; cases h) h
  obtain ⟨v, e, h1, h2, _⟩ := ty_slice u22 h'
  cases e
  rw [c30] at h1
  simp only [U10.isACs, V7.isRows, ty_no u22 h', h1, Bool.true_and, Bool.and_self, List.all_eq_true]
  exact fun r hr => r30 r (h2 r hr)

theorem storePlays_lifted (os : Os) (started : os.Started) (H : Type) (enc : TypeId × Value → H) :
    ReturnsInHanded {} Try.checked os 3 .any (Rows.storePlaysSpec.pre6 enc Try.prog Try.f3 Rows.storePlaysRow.domain false) (Rows.storePlaysSpec.post enc Try.prog Try.f3 false true false false) := by
  have hp : Try.f3.params.toList = [22] := by kernel_rfl
  refine law_lifted (tb := 4) hom started (by kernel_rfl) Try.func3 (by decide)
    (ChangeSpec.witness6 (enc := enc) (C := Try.checked) false ⟨#[], #[.slice none 0 0], []⟩ 8 (by kernel_rfl) (by kernel_rfl) (by kernel_rfl) (by kernel_rfl))
    (by kernel_rfl) rfl (by kernel_rfl) (by kernel_rfl) (fun ds hl => ?_) (fun l has => ?_)
  · rw [hp] at hl
    match ds, hl with
    | [d1], _ => exact ⟨rfl, rfl, rfl⟩
  · rw [hp] at has
    obtain ⟨a, rfl, ha⟩ := tyVs_one has
    exact ⟨[], U10.law_plays a (ty22 ha)⟩

theorem storePlays_holds : Rows.StorePlaysSaid :=
  OpenClaim.holds_of_wide 3 Try.f3 rfl rfl rfl rfl rfl rfl rfl ⟨rfl, rfl, rfl, rfl, rfl⟩ rfl rfl rfl rfl rfl (by kernel_rfl) Try.func3 (by kernel_rfl)
    (of_decide_eq_true (by kernel_rfl)) (by unfold Func.isWrapper; rw [if_neg (of_decide_eq_false (by kernel_rfl))]; exact ⟨rfl, rfl⟩)
    (fun os started H enc _ => storePlays_lifted os started H enc)
end Go.Proofs.Ytkjajfhgdlhhhaa
